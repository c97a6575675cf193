-- written by a program of this session (wip/src/print2.py)
import Derived.Test.YtplefdkookhlhaaPFnExactEncodeDescriptorx0
import Derived.Test.YtplefdkookhlhaaPFnExactEncodeDescriptorx1
import Derived.Test.YtplefdkookhlhaaPFnExactEncodeDescriptorx2
import Derived.Test.YtplefdkookhlhaaPFnExactEncodeDescriptorx4
import Derived.Test.YtplefdkookhlhaaPFnExactEncodeDescriptorx5
namespace Go.Proofs.Ytplefdkookhlhaa.PFnExactEncodeDescriptor
open Go.RowKit Go.Proofs.YtplefdkookhlhaaW.PrintWords Go.Proofs.YtplefdkookhlhaaW.PrintLast Go.Proofs.YtplefdkookhlhaaW.PrintMore
attribute [local go_sem] max2_int min2_int max_two min_two max_three min_three max_four min_four   -- for this text's walks alone
set_option linter.unusedVariables false
set_option linter.unusedSimpArgs false

/-! ### laws_FnExactEncodeDescriptor: function 7 -/
def laws_FnExactEncodeDescriptor.j0 : Nat → List Int → List Int → Bool → Int → List (S97) → Option (Bool)
  | 0, _, _, _, _, _ => none
  | k + 1, x4, x6, x42, x252000, x252001 => if x42 = true then (some false) else ((laws_markByteS.f k x6 1).bind fun bt277 => ((laws_heldByteS.f k bt277.2 1).bind fun t279 => (if t279 < 0 then (some false) else (if t279 = bt277.1 then ((laws_toDescriptor.f k x252000 x252001).bind fun bt280 => ((impl_EncodeDescriptor.f k bt280.1 bt280.2).bind fun t284 => ((laws_eqByteS.f k t284 x4).bind fun t287 => (if t287 = true then ((laws_heldByteS.f k bt277.2 1).bind fun t288 => (if t288 < 0 then (some false) else (if t288 = bt277.1 then (some true) else (some false)))) else (some false))))) else (some false)))))
def laws_FnExactEncodeDescriptor.f (k : Nat) (a0_0 : Int) (l0_1 : List (S97)) : Option (Bool) := (laws_szDescriptor.f a0_0 l0_1 1048576).bind fun t252 => (if t252 < 0 then (some true) else ((laws_toDescriptor.f k a0_0 l0_1).bind fun bt253 => ((spec_EncodeDescriptor.f k bt253.1 bt253.2).bind fun t257 => ((laws_toDescriptor.f k a0_0 l0_1).bind fun bt260 => ((impl_EncodeDescriptor.f k bt260.1 bt260.2).bind fun t265 => ((laws_eqByteS.f k t265 t257).bind fun t268 => (if t268 = true then ((laws_toDescriptor.f k a0_0 l0_1).bind fun bt269 => ((laws_eqDescriptor.f k bt260.1 bt260.2 bt269.1 bt269.2).bind fun t273 => (if t273 = true then ((laws_markDescriptor.f k bt260.1 bt260.2 1).bind fun bt274 => (if bt274.1 < 0 then (laws_FnExactEncodeDescriptor.j0 k t257 t265 true a0_0 l0_1) else ((laws_eqByteS.f k t265 t257).bind fun t276 => (laws_FnExactEncodeDescriptor.j0 k t257 t265 (!t276) a0_0 l0_1)))) else (some false)))) else (some false))))))))
theorem laws_FnExactEncodeDescriptor.mono_l : ∀ k, (∀ y0 y1 y2 y3 y4, LeO (laws_FnExactEncodeDescriptor.j0 k y0 y1 y2 y3 y4) (laws_FnExactEncodeDescriptor.j0 (k + 1) y0 y1 y2 y3 y4))
  | 0 => fun _ _ _ _ _ r h => by simp [laws_FnExactEncodeDescriptor.j0] at h
  | k + 1 => by
    have ih0 := laws_FnExactEncodeDescriptor.mono_l k
    · intro y0 y1 y2 y3 y4
      unfold laws_FnExactEncodeDescriptor.j0
      repeat' first
      | (with_reducible exact ih0 _ _ _ _ _)
      | (with_reducible exact impl_EncodeDescriptor.mono _ _ _)
      | (with_reducible exact laws_eqByteS.mono _ _ _)
      | (with_reducible exact laws_eqDescriptor.mono _ _ _ _ _)
      | (with_reducible exact laws_heldByteS.mono _ _ _)
      | (with_reducible exact laws_markByteS.mono _ _ _)
      | (with_reducible exact laws_markDescriptor.mono _ _ _ _)
      | (with_reducible exact laws_toDescriptor.mono _ _ _)
      | (with_reducible exact spec_EncodeDescriptor.mono _ _ _)
      | (with_reducible exact LeO.refl _)
      | (with_reducible exact LeO.none _)
      | (with_reducible refine LeO.ite ?_ ?_)
      | (with_reducible refine LeO.bind ?_ (fun _ => ?_))
      | exact ih0 _ _ _ _ _
      | exact impl_EncodeDescriptor.mono _ _ _
      | exact laws_eqByteS.mono _ _ _
      | exact laws_eqDescriptor.mono _ _ _ _ _
      | exact laws_heldByteS.mono _ _ _
      | exact laws_markByteS.mono _ _ _
      | exact laws_markDescriptor.mono _ _ _ _
      | exact laws_toDescriptor.mono _ _ _
      | exact spec_EncodeDescriptor.mono _ _ _
      | exact LeO.none _
      | refine LeO.ite ?_ ?_
      | refine LeO.bind ?_ (fun _ => ?_)
theorem laws_FnExactEncodeDescriptor.mono : ∀ a0 a1 k, LeO (laws_FnExactEncodeDescriptor.f k a0 a1) (laws_FnExactEncodeDescriptor.f (k + 1) a0 a1) := by
  intro a0 a1 k
  have ih0 := laws_FnExactEncodeDescriptor.mono_l k
  unfold laws_FnExactEncodeDescriptor.f
  repeat' first
      | (with_reducible exact ih0 _ _ _ _ _)
      | (with_reducible exact impl_EncodeDescriptor.mono _ _ _)
      | (with_reducible exact laws_eqByteS.mono _ _ _)
      | (with_reducible exact laws_eqDescriptor.mono _ _ _ _ _)
      | (with_reducible exact laws_heldByteS.mono _ _ _)
      | (with_reducible exact laws_markByteS.mono _ _ _)
      | (with_reducible exact laws_markDescriptor.mono _ _ _ _)
      | (with_reducible exact laws_toDescriptor.mono _ _ _)
      | (with_reducible exact spec_EncodeDescriptor.mono _ _ _)
      | (with_reducible exact LeO.refl _)
      | (with_reducible exact LeO.none _)
      | (with_reducible refine LeO.ite ?_ ?_)
      | (with_reducible refine LeO.bind ?_ (fun _ => ?_))
      | exact ih0 _ _ _ _ _
      | exact impl_EncodeDescriptor.mono _ _ _
      | exact laws_eqByteS.mono _ _ _
      | exact laws_eqDescriptor.mono _ _ _ _ _
      | exact laws_heldByteS.mono _ _ _
      | exact laws_markByteS.mono _ _ _
      | exact laws_markDescriptor.mono _ _ _ _
      | exact laws_toDescriptor.mono _ _ _
      | exact spec_EncodeDescriptor.mono _ _ _
      | exact LeO.none _
      | refine LeO.ite ?_ ?_
      | refine LeO.bind ?_ (fun _ => ?_)
set_option maxHeartbeats 8000000 in
set_option maxRecDepth 100000 in
theorem laws_FnExactEncodeDescriptor.calls (k : Nat) (a0_0 : Int) (A0_1 : Option Addr) (c0_1 : Nat) (l0_1 : List (S97)) (r : Bool) (w : World) (hr0_1 : Kd.C k97 w A0_1 l0_1.length l0_1) (hc0_1 : l0_1.length ≤ c0_1) (h : laws_FnExactEncodeDescriptor.f k a0_0 l0_1 = some r) (hrt : Aside0 (r = true)) :
    Calls Try.prog 7 #[.agg #[.int .i64 a0_0, .slice A0_1 l0_1.length c0_1]] w fun e w' => e = .returned (.bool r) ∧ Below w.heap.size w w' := by
  have hu51 := Try.underlying51
  have hu56 := Try.underlying56
  have HR0_1 := Aside0.mk hr0_1
  have HC0_1 := Aside0.mk hc0_1
  clear hr0_1 hc0_1
  have HB := Aside0.mk (Below.refl w.heap.size w)
  have H : ((laws_szDescriptor.f a0_0 l0_1 1048576).bind fun t252 => (if t252 < 0 then (some true) else ((laws_toDescriptor.f k a0_0 l0_1).bind fun bt253 => ((spec_EncodeDescriptor.f k bt253.1 bt253.2).bind fun t257 => ((laws_toDescriptor.f k a0_0 l0_1).bind fun bt260 => ((impl_EncodeDescriptor.f k bt260.1 bt260.2).bind fun t265 => ((laws_eqByteS.f k t265 t257).bind fun t268 => (if t268 = true then ((laws_toDescriptor.f k a0_0 l0_1).bind fun bt269 => ((laws_eqDescriptor.f k bt260.1 bt260.2 bt269.1 bt269.2).bind fun t273 => (if t273 = true then ((laws_markDescriptor.f k bt260.1 bt260.2 1).bind fun bt274 => (if bt274.1 < 0 then (laws_FnExactEncodeDescriptor.j0 k t257 t265 true a0_0 l0_1) else ((laws_eqByteS.f k t265 t257).bind fun t276 => (laws_FnExactEncodeDescriptor.j0 k t257 t265 (!t276) a0_0 l0_1)))) else (some false)))) else (some false))))))))) = some r := h
  clear h
  replace H := Option.bind_eq_some_iff.mp H
  obtain ⟨t252, A20, H⟩ := H
  replace H : (if t252 < 0 then (some true) else ((laws_toDescriptor.f k a0_0 l0_1).bind fun bt253 => ((spec_EncodeDescriptor.f k bt253.1 bt253.2).bind fun t257 => ((laws_toDescriptor.f k a0_0 l0_1).bind fun bt260 => ((impl_EncodeDescriptor.f k bt260.1 bt260.2).bind fun t265 => ((laws_eqByteS.f k t265 t257).bind fun t268 => (if t268 = true then ((laws_toDescriptor.f k a0_0 l0_1).bind fun bt269 => ((laws_eqDescriptor.f k bt260.1 bt260.2 bt269.1 bt269.2).bind fun t273 => (if t273 = true then ((laws_markDescriptor.f k bt260.1 bt260.2 1).bind fun bt274 => (if bt274.1 < 0 then (laws_FnExactEncodeDescriptor.j0 k t257 t265 true a0_0 l0_1) else ((laws_eqByteS.f k t265 t257).bind fun t276 => (laws_FnExactEncodeDescriptor.j0 k t257 t265 (!t276) a0_0 l0_1)))) else (some false)))) else (some false)))))))) = some r := H
  have A2 := Aside0.mk A20
  clear A20
  by_cases c3 : t252 < 0
  · rw [if_pos c3] at H
    have c3b0 : decide (t252 < 0) = true := decide_eq_true c3
    clear c3
    obtain rfl := Option.some.inj H
    go_enter Try.func7, Try.ntmps7
    go_wp2_with (first | ((with_reducible refine gate_dst (N := 1) rfl ?_); refine box_event ?hg (N := 1) ?hd (cs := #[.int .i64 a0_0, .slice A0_1 l0_1.length c0_1]) (t := 51) ?hr ?_; (case hd => rfl); (case hg => rfl); (case hr => first | (go_simp; done) | (go_simp; rfl)); intro gb251 hg w4 hbox hb; have n0_ := Aside0.mk (below_step (by repeat (first | (with_reducible first | exact HB.out | apply below_alloc | apply pw_below_drewN | apply below_drew1) | exact HB.out)) hb); have n1_ := Aside0.mk (hbox); have n2_ := Aside0.mk ((by rw [hg]; exact (below_size (by repeat (first | (with_reducible first | exact HB.out | apply below_alloc | apply pw_below_drewN | apply below_drew1) | exact HB.out))) : w.heap.size ≤ gb251)); have n3_ := Aside0.mk ((by rw [hg]; exact (below_size (by repeat (first | (with_reducible first | exact HB.out | apply below_alloc | apply pw_below_drewN | apply below_drew1) | exact HB.out))) : w.heap.size ≤ gb251)); clear HB; have HB := n0_; have BK251 := n1_; have GW251 := n2_; have GE251 := n3_; clear n0_ n1_ n2_ n3_; clear hb hbox hg; have hcz5_0 : w4.cell? ⟨gb251, 0, none⟩ = some (.int .i64 a0_0) := (blk_cell BK251.out 0).trans rfl; have hcz5_1 : w4.cell? ⟨gb251, 1, none⟩ = some (.slice A0_1 l0_1.length c0_1) := (blk_cell BK251.out 1).trans rfl; have hfz5_0 := blk_frozen BK251.out 0; have hfz5_1 := blk_frozen BK251.out 1) | ((with_reducible refine gate_callee (f := 32) rfl ?_); refine goesL_ (some 13) rfl rfl Try.func32 (by kernel_rfl) rfl #[.agg #[.int .i64 a0_0, .slice A0_1 l0_1.length c0_1], .int .i64 1048576] rfl (by (try simp only [List.map_toArray, List.map_cons, List.map_nil]); first | done | rfl | (simp only [List.length_drop, List.length_take]; rfl)) ?_; (with_reducible refine (laws_szDescriptor.calls a0_0 _ _ l0_1 1048576 t252 _ ?side1 ?side2 A2.out).mono ?_); (case side1 => repeat (first | exact (Kd.C_below HR0_1.out HB.out) | (with_reducible refine Kd.C_alloc ?_ _) | (with_reducible refine Kd.C_drewN ?_ _) | (with_reducible refine Kd.C_drew ?_))); (case side2 => exact HC0_1.out); rintro e w6 ⟨rfl, hb⟩; refine ⟨_, rfl, ?_⟩; have n0_ := Aside0.mk (blk_below (g := gb251) (o := .cells #[.int .i64 a0_0, .slice A0_1 l0_1.length c0_1] 51 (0, 0)) (by (with_reducible repeat (first | refine blk_drewN ?_ _ | refine blk_drew ?_ | refine blk_alloc ?_ _)); exact BK251.out) hb); have n1_ := Aside0.mk (below_step (by repeat (first | (with_reducible first | exact HB.out | apply below_alloc | apply pw_below_drewN | apply below_drew1 | refine below_set ?_ GE251.out) | exact HB.out)) hb); clear BK251; clear HB; have BK251 := n0_; have HB := n1_; clear n0_ n1_; (try clear hb); (try clear hb2); (try clear hk); (try clear hi)))
    go_ret
    exact ⟨by first | rfl | (simp [errW_none, errW_some] <;> rfl) | (simp [*, errW_none, errW_some] <;> rfl), by repeat (first | (with_reducible first | exact HB.out | apply below_alloc | apply pw_below_drewN | apply below_drew1 | refine below_set ?_ GE251.out) | exact HB.out)⟩
  · rw [if_neg c3] at H
    have c3b0 : decide (t252 < 0) = false := decide_eq_false c3
    clear c3
    replace H := Option.bind_eq_some_iff.mp H
    obtain ⟨⟨t253, t254⟩, A70, H⟩ := H
    replace H : ((spec_EncodeDescriptor.f k t253 t254).bind fun t257 => ((laws_toDescriptor.f k a0_0 l0_1).bind fun bt260 => ((impl_EncodeDescriptor.f k bt260.1 bt260.2).bind fun t265 => ((laws_eqByteS.f k t265 t257).bind fun t268 => (if t268 = true then ((laws_toDescriptor.f k a0_0 l0_1).bind fun bt269 => ((laws_eqDescriptor.f k bt260.1 bt260.2 bt269.1 bt269.2).bind fun t273 => (if t273 = true then ((laws_markDescriptor.f k bt260.1 bt260.2 1).bind fun bt274 => (if bt274.1 < 0 then (laws_FnExactEncodeDescriptor.j0 k t257 t265 true a0_0 l0_1) else ((laws_eqByteS.f k t265 t257).bind fun t276 => (laws_FnExactEncodeDescriptor.j0 k t257 t265 (!t276) a0_0 l0_1)))) else (some false)))) else (some false)))))) = some r := H
    have A7 := Aside0.mk A70
    clear A70
    replace H := Option.bind_eq_some_iff.mp H
    obtain ⟨t257, A80, H⟩ := H
    replace H : ((laws_toDescriptor.f k a0_0 l0_1).bind fun bt260 => ((impl_EncodeDescriptor.f k bt260.1 bt260.2).bind fun t265 => ((laws_eqByteS.f k t265 t257).bind fun t268 => (if t268 = true then ((laws_toDescriptor.f k a0_0 l0_1).bind fun bt269 => ((laws_eqDescriptor.f k bt260.1 bt260.2 bt269.1 bt269.2).bind fun t273 => (if t273 = true then ((laws_markDescriptor.f k bt260.1 bt260.2 1).bind fun bt274 => (if bt274.1 < 0 then (laws_FnExactEncodeDescriptor.j0 k t257 t265 true a0_0 l0_1) else ((laws_eqByteS.f k t265 t257).bind fun t276 => (laws_FnExactEncodeDescriptor.j0 k t257 t265 (!t276) a0_0 l0_1)))) else (some false)))) else (some false))))) = some r := H
    have A8 := Aside0.mk A80
    clear A80
    replace H := Option.bind_eq_some_iff.mp H
    obtain ⟨⟨t260, t261⟩, A90, H⟩ := H
    replace H : ((impl_EncodeDescriptor.f k t260 t261).bind fun t265 => ((laws_eqByteS.f k t265 t257).bind fun t268 => (if t268 = true then ((laws_toDescriptor.f k a0_0 l0_1).bind fun bt269 => ((laws_eqDescriptor.f k t260 t261 bt269.1 bt269.2).bind fun t273 => (if t273 = true then ((laws_markDescriptor.f k t260 t261 1).bind fun bt274 => (if bt274.1 < 0 then (laws_FnExactEncodeDescriptor.j0 k t257 t265 true a0_0 l0_1) else ((laws_eqByteS.f k t265 t257).bind fun t276 => (laws_FnExactEncodeDescriptor.j0 k t257 t265 (!t276) a0_0 l0_1)))) else (some false)))) else (some false)))) = some r := H
    have A9 := Aside0.mk A90
    clear A90
    replace H := Option.bind_eq_some_iff.mp H
    obtain ⟨t265, A100, H⟩ := H
    replace H : ((laws_eqByteS.f k t265 t257).bind fun t268 => (if t268 = true then ((laws_toDescriptor.f k a0_0 l0_1).bind fun bt269 => ((laws_eqDescriptor.f k t260 t261 bt269.1 bt269.2).bind fun t273 => (if t273 = true then ((laws_markDescriptor.f k t260 t261 1).bind fun bt274 => (if bt274.1 < 0 then (laws_FnExactEncodeDescriptor.j0 k t257 t265 true a0_0 l0_1) else ((laws_eqByteS.f k t265 t257).bind fun t276 => (laws_FnExactEncodeDescriptor.j0 k t257 t265 (!t276) a0_0 l0_1)))) else (some false)))) else (some false))) = some r := H
    have A10 := Aside0.mk A100
    clear A100
    replace H := Option.bind_eq_some_iff.mp H
    obtain ⟨t268, A110, H⟩ := H
    replace H : (if t268 = true then ((laws_toDescriptor.f k a0_0 l0_1).bind fun bt269 => ((laws_eqDescriptor.f k t260 t261 bt269.1 bt269.2).bind fun t273 => (if t273 = true then ((laws_markDescriptor.f k t260 t261 1).bind fun bt274 => (if bt274.1 < 0 then (laws_FnExactEncodeDescriptor.j0 k t257 t265 true a0_0 l0_1) else ((laws_eqByteS.f k t265 t257).bind fun t276 => (laws_FnExactEncodeDescriptor.j0 k t257 t265 (!t276) a0_0 l0_1)))) else (some false)))) else (some false)) = some r := H
    have A11 := Aside0.mk A110
    clear A110
    by_cases c12 : t268 = true
    · subst c12
      have H1 : ((laws_toDescriptor.f k a0_0 l0_1).bind fun bt269 => ((laws_eqDescriptor.f k t260 t261 bt269.1 bt269.2).bind fun t273 => (if t273 = true then ((laws_markDescriptor.f k t260 t261 1).bind fun bt274 => (if bt274.1 < 0 then (laws_FnExactEncodeDescriptor.j0 k t257 t265 true a0_0 l0_1) else ((laws_eqByteS.f k t265 t257).bind fun t276 => (laws_FnExactEncodeDescriptor.j0 k t257 t265 (!t276) a0_0 l0_1)))) else (some false)))) = some r := by rw [if_pos rfl] at H; exact H
      clear H
      have H := H1
      clear H1
      replace H := Option.bind_eq_some_iff.mp H
      obtain ⟨⟨t269, t270⟩, A130, H⟩ := H
      replace H : ((laws_eqDescriptor.f k t260 t261 t269 t270).bind fun t273 => (if t273 = true then ((laws_markDescriptor.f k t260 t261 1).bind fun bt274 => (if bt274.1 < 0 then (laws_FnExactEncodeDescriptor.j0 k t257 t265 true a0_0 l0_1) else ((laws_eqByteS.f k t265 t257).bind fun t276 => (laws_FnExactEncodeDescriptor.j0 k t257 t265 (!t276) a0_0 l0_1)))) else (some false))) = some r := H
      have A13 := Aside0.mk A130
      clear A130
      replace H := Option.bind_eq_some_iff.mp H
      obtain ⟨t273, A140, H⟩ := H
      replace H : (if t273 = true then ((laws_markDescriptor.f k t260 t261 1).bind fun bt274 => (if bt274.1 < 0 then (laws_FnExactEncodeDescriptor.j0 k t257 t265 true a0_0 l0_1) else ((laws_eqByteS.f k t265 t257).bind fun t276 => (laws_FnExactEncodeDescriptor.j0 k t257 t265 (!t276) a0_0 l0_1)))) else (some false)) = some r := H
      have A14 := Aside0.mk A140
      clear A140
      by_cases c15 : t273 = true
      · subst c15
        have H1 : ((laws_markDescriptor.f k t260 t261 1).bind fun bt274 => (if bt274.1 < 0 then (laws_FnExactEncodeDescriptor.j0 k t257 t265 true a0_0 l0_1) else ((laws_eqByteS.f k t265 t257).bind fun t276 => (laws_FnExactEncodeDescriptor.j0 k t257 t265 (!t276) a0_0 l0_1)))) = some r := by rw [if_pos rfl] at H; exact H
        clear H
        have H := H1
        clear H1
        replace H := Option.bind_eq_some_iff.mp H
        obtain ⟨⟨t274, t275⟩, A160, H⟩ := H
        replace H : (if t274 < 0 then (laws_FnExactEncodeDescriptor.j0 k t257 t265 true a0_0 l0_1) else ((laws_eqByteS.f k t265 t257).bind fun t276 => (laws_FnExactEncodeDescriptor.j0 k t257 t265 (!t276) a0_0 l0_1))) = some r := H
        have A16 := Aside0.mk A160
        clear A160
        have HC17 := Aside0.mk H
        clear H
        go_enter Try.func7, Try.ntmps7
        try go_wp2_with (first | ((with_reducible refine gate_dst (N := 1) rfl ?_); refine box_event ?hg (N := 1) ?hd (cs := #[.int .i64 a0_0, .slice A0_1 l0_1.length c0_1]) (t := 51) ?hr ?_; (case hd => rfl); (case hg => rfl); (case hr => first | (go_simp; done) | (go_simp; rfl)); intro gb251 hg w18 hbox hb; have n0_ := Aside0.mk (below_step (by repeat (first | (with_reducible first | exact HB.out | apply below_alloc | apply pw_below_drewN | apply below_drew1) | exact HB.out)) hb); have n1_ := Aside0.mk (hbox); have n2_ := Aside0.mk ((by rw [hg]; exact (below_size (by repeat (first | (with_reducible first | exact HB.out | apply below_alloc | apply pw_below_drewN | apply below_drew1) | exact HB.out))) : w.heap.size ≤ gb251)); have n3_ := Aside0.mk ((by rw [hg]; exact (below_size (by repeat (first | (with_reducible first | exact HB.out | apply below_alloc | apply pw_below_drewN | apply below_drew1) | exact HB.out))) : w.heap.size ≤ gb251)); clear HB; have HB := n0_; have BK251 := n1_; have GW251 := n2_; have GE251 := n3_; clear n0_ n1_ n2_ n3_; clear hb hbox hg; have hcz19_0 : w18.cell? ⟨gb251, 0, none⟩ = some (.int .i64 a0_0) := (blk_cell BK251.out 0).trans rfl; have hcz19_1 : w18.cell? ⟨gb251, 1, none⟩ = some (.slice A0_1 l0_1.length c0_1) := (blk_cell BK251.out 1).trans rfl; have hfz19_0 := blk_frozen BK251.out 0; have hfz19_1 := blk_frozen BK251.out 1) | ((with_reducible refine gate_callee (f := 32) rfl ?_); refine goesL_ (some 13) rfl rfl Try.func32 (by kernel_rfl) rfl #[.agg #[.int .i64 a0_0, .slice A0_1 l0_1.length c0_1], .int .i64 1048576] rfl (by (try simp only [List.map_toArray, List.map_cons, List.map_nil]); first | done | rfl | (simp only [List.length_drop, List.length_take]; rfl)) ?_; (with_reducible refine (laws_szDescriptor.calls a0_0 _ _ l0_1 1048576 t252 _ ?side1 ?side2 A2.out).mono ?_); (case side1 => repeat (first | exact (Kd.C_below HR0_1.out HB.out) | (with_reducible refine Kd.C_alloc ?_ _) | (with_reducible refine Kd.C_drewN ?_ _) | (with_reducible refine Kd.C_drew ?_))); (case side2 => exact HC0_1.out); rintro e w20 ⟨rfl, hb⟩; refine ⟨_, rfl, ?_⟩; have n0_ := Aside0.mk (blk_below (g := gb251) (o := .cells #[.int .i64 a0_0, .slice A0_1 l0_1.length c0_1] 51 (0, 0)) (by (with_reducible repeat (first | refine blk_drewN ?_ _ | refine blk_drew ?_ | refine blk_alloc ?_ _)); exact BK251.out) hb); have n1_ := Aside0.mk (below_step (by repeat (first | (with_reducible first | exact HB.out | apply below_alloc | apply pw_below_drewN | apply below_drew1 | refine below_set ?_ GE251.out) | exact HB.out)) hb); clear BK251; clear HB; have BK251 := n0_; have HB := n1_; clear n0_ n1_; (try clear hb); (try clear hb2); (try clear hk); (try clear hi); have hcz21_0 : w20.cell? ⟨gb251, 0, none⟩ = some (.int .i64 a0_0) := (blk_cell BK251.out 0).trans rfl; have hcz21_1 : w20.cell? ⟨gb251, 1, none⟩ = some (.slice A0_1 l0_1.length c0_1) := (blk_cell BK251.out 1).trans rfl; have hfz21_0 := blk_frozen BK251.out 0; have hfz21_1 := blk_frozen BK251.out 1) | ((with_reducible refine gate_callee (f := 34) rfl ?_); refine goesL_ (some 17) rfl rfl Try.func34 (by kernel_rfl) rfl #[.agg #[.int .i64 a0_0, .slice A0_1 l0_1.length c0_1]] rfl (by (try simp only [List.map_toArray, List.map_cons, List.map_nil]); first | done | rfl | (simp only [List.length_drop, List.length_take]; rfl)) ?_; (with_reducible refine (laws_toDescriptor.calls k a0_0 _ _ l0_1 t253 t254 _ ?side1 ?side2 A7.out).mono ?_); (case side1 => repeat (first | exact (Kd.C_below HR0_1.out HB.out) | (with_reducible refine Kd.C_alloc ?_ _) | (with_reducible refine Kd.C_drewN ?_ _) | (with_reducible refine Kd.C_drew ?_))); (case side2 => exact HC0_1.out); rintro e w22 ⟨v255, rfl, ho0, hb⟩; refine ⟨_, rfl, ?_⟩; have n0_ := Aside0.mk (Kd.R_lower ho0 (below_size (by repeat (first | (with_reducible first | exact HB.out | apply below_alloc | apply pw_below_drewN | apply below_drew1 | refine below_set ?_ GE251.out) | exact HB.out)))); have n1_ := Aside0.mk (blk_below (g := gb251) (o := .cells #[.int .i64 a0_0, .slice A0_1 l0_1.length c0_1] 51 (0, 0)) (by (with_reducible repeat (first | refine blk_drewN ?_ _ | refine blk_drew ?_ | refine blk_alloc ?_ _)); exact BK251.out) hb); have n2_ := Aside0.mk (below_step (by repeat (first | (with_reducible first | exact HB.out | apply below_alloc | apply pw_below_drewN | apply below_drew1 | refine below_set ?_ GE251.out) | exact HB.out)) hb); clear BK251; clear HB; have HO256 := n0_; have BK251 := n1_; have HB := n2_; clear n0_ n1_ n2_; (try clear hb); (try clear hb2); (try clear hk); (try clear hi); (try clear ho0); obtain ⟨Ao23, co23, eo23⟩ := Kd.R_slice HO256.out; subst eo23) | ((with_reducible refine gate_callee (f := 33) rfl ?_); refine goesL_ (some 18) rfl rfl Try.func33 (by kernel_rfl) rfl #[.agg #[.int .i64 t253, .slice Ao23 t254.length co23]] rfl (by (try simp only [List.map_toArray, List.map_cons, List.map_nil]); first | done | rfl | (simp only [List.length_drop, List.length_take]; rfl)) ?_; (with_reducible refine (spec_EncodeDescriptor.calls k t253 _ _ t254 t257 _ ?side1 ?side2 A8.out).mono ?_); (case side1 => repeat (first | exact (Kd.R_reads' HO256.out).2.2 | (with_reducible refine Kd.C_alloc ?_ _) | (with_reducible refine Kd.C_drewN ?_ _) | (with_reducible refine Kd.C_drew ?_))); (case side2 => exact (Kd.R_reads' HO256.out).2.1); rintro e w24 ⟨v258, rfl, ho0, hb⟩; refine ⟨_, rfl, ?_⟩; have n0_ := Aside0.mk (Kd.R_below (by (with_reducible repeat (first | apply Kd.R_alloc | apply Kd.R_drewN | apply Kd.R_drew)); exact HO256.out) hb); have n1_ := Aside0.mk (Kd.R_lower ho0 (below_size (by repeat (first | (with_reducible first | exact HB.out | apply below_alloc | apply pw_below_drewN | apply below_drew1 | refine below_set ?_ GE251.out) | exact HB.out)))); have n2_ := Aside0.mk (blk_below (g := gb251) (o := .cells #[.int .i64 a0_0, .slice A0_1 l0_1.length c0_1] 51 (0, 0)) (by (with_reducible repeat (first | refine blk_drewN ?_ _ | refine blk_drew ?_ | refine blk_alloc ?_ _)); exact BK251.out) hb); have n3_ := Aside0.mk (below_step (by repeat (first | (with_reducible first | exact HB.out | apply below_alloc | apply pw_below_drewN | apply below_drew1 | refine below_set ?_ GE251.out) | exact HB.out)) hb); clear HO256; clear BK251; clear HB; have HO256 := n0_; have HO259 := n1_; have BK251 := n2_; have HB := n3_; clear n0_ n1_ n2_ n3_; (try clear hb); (try clear hb2); (try clear hk); (try clear hi); (try clear ho0); have hcz25_0 : w24.cell? ⟨gb251, 0, none⟩ = some (.int .i64 a0_0) := (blk_cell BK251.out 0).trans rfl; have hcz25_1 : w24.cell? ⟨gb251, 1, none⟩ = some (.slice A0_1 l0_1.length c0_1) := (blk_cell BK251.out 1).trans rfl; have hfz25_0 := blk_frozen BK251.out 0; have hfz25_1 := blk_frozen BK251.out 1) | ((with_reducible refine gate_callee (f := 34) rfl ?_); refine goesL_ (some 20) rfl rfl Try.func34 (by kernel_rfl) rfl #[.agg #[.int .i64 a0_0, .slice A0_1 l0_1.length c0_1]] rfl (by (try simp only [List.map_toArray, List.map_cons, List.map_nil]); first | done | rfl | (simp only [List.length_drop, List.length_take]; rfl)) ?_; (with_reducible refine (laws_toDescriptor.calls k a0_0 _ _ l0_1 t260 t261 _ ?side1 ?side2 A9.out).mono ?_); (case side1 => repeat (first | exact (Kd.C_below HR0_1.out HB.out) | (with_reducible refine Kd.C_alloc ?_ _) | (with_reducible refine Kd.C_drewN ?_ _) | (with_reducible refine Kd.C_drew ?_))); (case side2 => exact HC0_1.out); rintro e w26 ⟨v262, rfl, ho0, hb⟩; refine ⟨_, rfl, ?_⟩; have n0_ := Aside0.mk (Kd.R_elder' (by (with_reducible repeat (first | apply Kd.R_alloc | apply Kd.R_drewN | apply Kd.R_drew)); exact HO256.out) (Kd.R_base ho0) hb); have n1_ := Aside0.mk (Kd.R_below (by (with_reducible repeat (first | apply Kd.R_alloc | apply Kd.R_drewN | apply Kd.R_drew)); exact HO259.out) hb); have n2_ := Aside0.mk (Kd.R_lower (Kd.R_new' ho0 (Kd.R_lt (by (with_reducible repeat (first | apply Kd.R_alloc | apply Kd.R_drewN | apply Kd.R_drew)); exact HO256.out))) (below_size (by repeat (first | (with_reducible first | exact HB.out | apply below_alloc | apply pw_below_drewN | apply below_drew1 | refine below_set ?_ GE251.out) | exact HB.out)))); have n3_ := Aside0.mk (blk_below (g := gb251) (o := .cells #[.int .i64 a0_0, .slice A0_1 l0_1.length c0_1] 51 (0, 0)) (by (with_reducible repeat (first | refine blk_drewN ?_ _ | refine blk_drew ?_ | refine blk_alloc ?_ _)); exact BK251.out) hb); have n4_ := Aside0.mk (below_step (by repeat (first | (with_reducible first | exact HB.out | apply below_alloc | apply pw_below_drewN | apply below_drew1 | refine below_set ?_ GE251.out) | exact HB.out)) hb); clear HO256; clear HO259; clear BK251; clear HB; have HO256 := n0_; have HO259 := n1_; have HO263 := n2_; have BK251 := n3_; have HB := n4_; clear n0_ n1_ n2_ n3_ n4_; (try clear hb); (try clear hb2); (try clear hk); (try clear hi); (try clear ho0)) | ((with_reducible refine gate_dst (N := 5) rfl ?_); refine box_event ?hg (N := 5) ?hd (cs := #[.int .i64 0, .slice none 0 0]) (t := 56) ?hr ?_; (case hd => rfl); (case hg => rfl); (case hr => first | (go_simp; done) | (go_simp; rfl)); intro gb264 hg w27 hbox hb; have n0_ := Aside0.mk (Kd.R_below (by (with_reducible repeat (first | apply Kd.R_alloc | apply Kd.R_drewN | apply Kd.R_drew)); exact HO256.out) hb); have n1_ := Aside0.mk (Kd.R_below (by (with_reducible repeat (first | apply Kd.R_alloc | apply Kd.R_drewN | apply Kd.R_drew)); exact HO259.out) hb); have n2_ := Aside0.mk (Kd.R_below (by (with_reducible repeat (first | apply Kd.R_alloc | apply Kd.R_drewN | apply Kd.R_drew)); exact HO263.out) hb); have n3_ := Aside0.mk (blk_below (g := gb251) (o := .cells #[.int .i64 a0_0, .slice A0_1 l0_1.length c0_1] 51 (0, 0)) (by (with_reducible repeat (first | refine blk_drewN ?_ _ | refine blk_drew ?_ | refine blk_alloc ?_ _)); exact BK251.out) hb); have n4_ := Aside0.mk (below_step (by repeat (first | (with_reducible first | exact HB.out | apply below_alloc | apply pw_below_drewN | apply below_drew1 | refine below_set ?_ GE251.out) | exact HB.out)) hb); have n5_ := Aside0.mk (hbox); have n6_ := Aside0.mk ((by rw [hg]; exact (below_size (by repeat (first | (with_reducible first | exact HB.out | apply below_alloc | apply pw_below_drewN | apply below_drew1 | refine below_set ?_ GE251.out) | exact HB.out))) : w.heap.size ≤ gb264)); have n7_ := Aside0.mk ((by rw [hg]; exact (below_size (by repeat (first | (with_reducible first | exact HB.out | apply below_alloc | apply pw_below_drewN | apply below_drew1 | refine below_set ?_ GE251.out) | exact HB.out))) : w.heap.size ≤ gb264)); have n8_ := Aside0.mk ((by rw [hg]; exact Nat.ne_of_lt (blk_lt (g := gb251) (o := .cells #[.int .i64 a0_0, .slice A0_1 l0_1.length c0_1] 51 (0, 0)) (by (with_reducible repeat (first | refine blk_drewN ?_ _ | refine blk_drew ?_ | refine blk_alloc ?_ _)); exact BK251.out)) : gb251 ≠ gb264)); have n9_ := Aside0.mk ((by rw [hg]; exact Nat.ne_of_gt (blk_lt (g := gb251) (o := .cells #[.int .i64 a0_0, .slice A0_1 l0_1.length c0_1] 51 (0, 0)) (by (with_reducible repeat (first | refine blk_drewN ?_ _ | refine blk_drew ?_ | refine blk_alloc ?_ _)); exact BK251.out)) : gb264 ≠ gb251)); clear HO256; clear HO259; clear HO263; clear BK251; clear HB; have HO256 := n0_; have HO259 := n1_; have HO263 := n2_; have BK251 := n3_; have HB := n4_; have BK264 := n5_; have GW264 := n6_; have GE264 := n7_; have NB251_264 := n8_; have NB264_251 := n9_; clear n0_ n1_ n2_ n3_ n4_ n5_ n6_ n7_ n8_ n9_; clear hb hbox hg; have hnb28 := NB264_251.out; have hnc28 := NB251_264.out; have hcz29_0 : w27.cell? ⟨gb264, 0, none⟩ = some (.int .i64 0) := (blk_cell BK264.out 0).trans rfl; have hcz29_1 : w27.cell? ⟨gb264, 1, none⟩ = some (.slice none 0 0) := (blk_cell BK264.out 1).trans rfl; have hfz29_0 := blk_frozen BK264.out 0; have hfz29_1 := blk_frozen BK264.out 1; obtain ⟨Ao30, co30, eo30⟩ := Kd.R_slice HO263.out; subst eo30) | ((with_reducible refine gate_callee (f := 35) rfl ?_); refine goesL_ (some 22) rfl rfl Try.func35 (by kernel_rfl) rfl #[.agg #[.int .i64 t260, .slice Ao30 t261.length co30]] rfl (by (try simp only [List.map_toArray, List.map_cons, List.map_nil]); first | done | rfl | (simp only [List.length_drop, List.length_take]; rfl)) ?_; (with_reducible refine (impl_EncodeDescriptor.calls k t260 _ _ t261 t265 _ ?side1 ?side2 A10.out).mono ?_); (case side1 => refine (Kd.R_reads' (e := 86) (base := w.heap.size) (ok := fun k_ => (True ∧ some k_ ≠ (.slice Ao23 t254.length co23 : Value).ownBlock)) (n := t261.length) (c := co30) ?_).2.2; exact (by (with_reducible repeat (first | apply Kd.R_alloc | apply Kd.R_drewN | apply Kd.R_drew)); exact (Kd.R_mono (Kd.R_far (p := ⟨gb264, 1, none⟩) (Kd.R_far (p := ⟨gb264, 0, none⟩) (Kd.R_types HO263.out BK264.out (by decide)) (fun _ hk => hk.2) (.int .i64 t260)) (fun _ hk => hk.2) (.slice Ao30 t261.length co30)) (fun _ h_ => h_.1)))); (case side2 => exact (Kd.R_reads' HO263.out).2.1); rintro e w31 ⟨v266, rfl, ho0, hb⟩; refine ⟨_, rfl, ?_⟩; have n0_ := Aside0.mk (Kd.R_below (by (with_reducible repeat (first | apply Kd.R_alloc | apply Kd.R_drewN | apply Kd.R_drew)); exact (Kd.R_mono (Kd.R_far (p := ⟨gb264, 1, none⟩) (Kd.R_far (p := ⟨gb264, 0, none⟩) (Kd.R_types HO256.out BK264.out (by decide)) (fun _ hk => hk.2) (.int .i64 t260)) (fun _ hk => hk.2) (.slice Ao30 t261.length co30)) (fun _ h_ => h_.1))) hb); have n1_ := Aside0.mk (Kd.R_elder' (by (with_reducible repeat (first | apply Kd.R_alloc | apply Kd.R_drewN | apply Kd.R_drew)); exact (Kd.R_mono (Kd.R_far (p := ⟨gb264, 1, none⟩) (Kd.R_far (p := ⟨gb264, 0, none⟩) (Kd.R_types HO259.out BK264.out (by decide)) (fun _ hk => hk.2) (.int .i64 t260)) (fun _ hk => hk.2) (.slice Ao30 t261.length co30)) (fun _ h_ => h_.1))) (Kd.R_base ho0) hb); have n2_ := Aside0.mk (Kd.R_below (by (with_reducible repeat (first | apply Kd.R_alloc | apply Kd.R_drewN | apply Kd.R_drew)); exact (Kd.R_mono (Kd.R_far (p := ⟨gb264, 1, none⟩) (Kd.R_far (p := ⟨gb264, 0, none⟩) (Kd.R_types HO263.out BK264.out (by decide)) (fun _ hk => hk.2) (.int .i64 t260)) (fun _ hk => hk.2) (.slice Ao30 t261.length co30)) (fun _ h_ => h_.1))) hb); have n3_ := Aside0.mk (Kd.R_lower (Kd.R_new' ho0 (Kd.R_lt (by (with_reducible repeat (first | apply Kd.R_alloc | apply Kd.R_drewN | apply Kd.R_drew)); exact (Kd.R_mono (Kd.R_far (p := ⟨gb264, 1, none⟩) (Kd.R_far (p := ⟨gb264, 0, none⟩) (Kd.R_types HO259.out BK264.out (by decide)) (fun _ hk => hk.2) (.int .i64 t260)) (fun _ hk => hk.2) (.slice Ao30 t261.length co30)) (fun _ h_ => h_.1))))) (below_size (by repeat (first | (with_reducible first | exact HB.out | apply below_alloc | apply pw_below_drewN | apply below_drew1 | refine below_set ?_ GE251.out | refine below_set ?_ GE264.out) | exact HB.out)))); have n4_ := Aside0.mk (blk_below (g := gb251) (o := .cells #[.int .i64 a0_0, .slice A0_1 l0_1.length c0_1] 51 (0, 0)) (by (with_reducible repeat (first | refine blk_drewN ?_ _ | refine blk_drew ?_ | refine blk_alloc ?_ _)); refine blk_far ?_ NB251_264.out _; (with_reducible repeat (first | refine blk_drewN ?_ _ | refine blk_drew ?_ | refine blk_alloc ?_ _)); refine blk_far ?_ NB251_264.out _; (with_reducible repeat (first | refine blk_drewN ?_ _ | refine blk_drew ?_ | refine blk_alloc ?_ _)); exact BK251.out) hb); have n5_ := Aside0.mk (blk_below (g := gb264) (o := .cells #[.int .i64 t260, .slice Ao30 t261.length co30] 56 (0, 0)) (by (with_reducible repeat (first | refine blk_drewN ?_ _ | refine blk_drew ?_ | refine blk_alloc ?_ _)); refine blk_put (cs := #[.int .i64 t260, .slice none 0 0]) ?_ 1 _ rfl; (with_reducible repeat (first | refine blk_drewN ?_ _ | refine blk_drew ?_ | refine blk_alloc ?_ _)); refine blk_put (cs := #[.int .i64 0, .slice none 0 0]) ?_ 0 _ rfl; (with_reducible repeat (first | refine blk_drewN ?_ _ | refine blk_drew ?_ | refine blk_alloc ?_ _)); exact BK264.out) hb); have n6_ := Aside0.mk (below_step (by repeat (first | (with_reducible first | exact HB.out | apply below_alloc | apply pw_below_drewN | apply below_drew1 | refine below_set ?_ GE251.out | refine below_set ?_ GE264.out) | exact HB.out)) hb); clear HO256; clear HO259; clear HO263; clear BK251; clear BK264; clear HB; have HO256 := n0_; have HO259 := n1_; have HO263 := n2_; have HO267 := n3_; have BK251 := n4_; have BK264 := n5_; have HB := n6_; clear n0_ n1_ n2_ n3_ n4_ n5_ n6_; (try clear hb); (try clear hb2); (try clear hk); (try clear hi); (try clear ho0); obtain ⟨Ao32, co32, eo32⟩ := Kd.R_slice HO267.out; subst eo32; obtain ⟨Ao33, co33, eo33⟩ := Kd.R_slice HO259.out; subst eo33) | ((with_reducible refine gate_callee (f := 14) rfl ?_); refine goesL_ (some 25) rfl rfl Try.func14 (by kernel_rfl) rfl #[.slice Ao32 t265.length co32, .slice Ao33 t257.length co33] rfl (by (try simp only [List.map_toArray, List.map_cons, List.map_nil]); first | done | rfl | (simp only [List.length_drop, List.length_take]; rfl)) ?_; (with_reducible refine (laws_eqByteS.calls k _ _ t265 _ _ t257 true _ ?side1 ?side2 ?side3 ?side4 A11.out).mono ?_); (case side1 => repeat (first | exact (Kd.R_reads' HO267.out).2.2 | (with_reducible refine Kd.C_alloc ?_ _) | (with_reducible refine Kd.C_drewN ?_ _) | (with_reducible refine Kd.C_drew ?_))); (case side2 => exact (Kd.R_reads' HO267.out).2.1); (case side3 => repeat (first | exact (Kd.R_reads' HO259.out).2.2 | (with_reducible refine Kd.C_alloc ?_ _) | (with_reducible refine Kd.C_drewN ?_ _) | (with_reducible refine Kd.C_drew ?_))); (case side4 => exact (Kd.R_reads' HO259.out).2.1); rintro e w' ⟨rfl, ⟨nd, rfl⟩⟩; refine ⟨_, rfl, ?_⟩))
        (try (rw [drewN_self w31]; generalize hq_ : World.drewN w31 _ = w31; have n0_ : Aside0 (Kd.R k86 86 w31 w.heap.size (fun k_ => some k_ ≠ (.slice Ao30 t261.length co30 : Value).ownBlock) (.slice Ao23 t254.length co23) t254) := ⟨by rw [← hq_]; exact (by (with_reducible repeat (first | apply Kd.R_alloc | apply Kd.R_drewN | apply Kd.R_drew)); exact Kd.R_mono HO256.out (fun _ hk => hk.2))⟩; have n1_ : Aside0 (Kd.R (Kd.int .u8) 5 w31 w.heap.size (fun k_ => some k_ ≠ (.slice Ao32 t265.length co32 : Value).ownBlock) (.slice Ao33 t257.length co33) t257) := ⟨by rw [← hq_]; exact (by (with_reducible repeat (first | apply Kd.R_alloc | apply Kd.R_drewN | apply Kd.R_drew)); exact Kd.R_mono HO259.out (fun _ hk => hk.2))⟩; have n2_ : Aside0 (Kd.R k86 86 w31 w.heap.size (fun k_ => some k_ ≠ (.slice Ao23 t254.length co23 : Value).ownBlock) (.slice Ao30 t261.length co30) t261) := ⟨by rw [← hq_]; exact (by (with_reducible repeat (first | apply Kd.R_alloc | apply Kd.R_drewN | apply Kd.R_drew)); exact Kd.R_mono HO263.out (fun _ hk => hk.2))⟩; have n3_ : Aside0 (Kd.R (Kd.int .u8) 5 w31 w.heap.size (fun k_ => some k_ ≠ (.slice Ao33 t257.length co33 : Value).ownBlock) (.slice Ao32 t265.length co32) t265) := ⟨by rw [← hq_]; exact (by (with_reducible repeat (first | apply Kd.R_alloc | apply Kd.R_drewN | apply Kd.R_drew)); exact Kd.R_mono HO267.out (fun _ hk => hk.2))⟩; have n4_ : Aside0 (w31.heap[gb251]? = some (.cells #[.int .i64 a0_0, .slice A0_1 l0_1.length c0_1] 51 (0, 0))) := ⟨by rw [← hq_]; exact (by (with_reducible repeat (first | refine blk_drewN ?_ _ | refine blk_drew ?_ | refine blk_alloc ?_ _)); exact BK251.out)⟩; have n5_ : Aside0 (w31.heap[gb264]? = some (.cells #[.int .i64 t260, .slice Ao30 t261.length co30] 56 (0, 0))) := ⟨by rw [← hq_]; exact (by (with_reducible repeat (first | refine blk_drewN ?_ _ | refine blk_drew ?_ | refine blk_alloc ?_ _)); exact BK264.out)⟩; have n6_ : Aside0 (Below w.heap.size w w31) := ⟨by rw [← hq_]; exact (by repeat (first | (with_reducible first | exact HB.out | apply below_alloc | apply pw_below_drewN | apply below_drew1 | refine below_set ?_ GE251.out | refine below_set ?_ GE264.out) | exact HB.out))⟩; clear HO256 HO259 HO263 HO267 BK251 BK264 HB hq_; have HO256 := n0_; have HO259 := n1_; have HO263 := n2_; have HO267 := n3_; have BK251 := n4_; have BK264 := n5_; have HB := n6_; clear n0_ n1_ n2_ n3_ n4_ n5_ n6_))
        have n0_ := Aside0.mk (Kd.R_drew HO256.out)
        have n1_ := Aside0.mk (Kd.R_drew HO259.out)
        have n2_ := Aside0.mk (Kd.R_drew HO263.out)
        have n3_ := Aside0.mk (Kd.R_drew HO267.out)
        have n4_ := Aside0.mk (blk_drew BK251.out)
        have n5_ := Aside0.mk (blk_drew BK264.out)
        have n6_ := Aside0.mk (below_drew1 HB.out)
        clear HO256
        clear HO259
        clear HO263
        clear HO267
        clear BK251
        clear BK264
        clear HB
        have HO256 := n0_
        have HO259 := n1_
        have HO263 := n2_
        have HO267 := n3_
        have BK251 := n4_
        have BK264 := n5_
        have HB := n6_
        clear n0_ n1_ n2_ n3_ n4_ n5_ n6_
        refine start_ (n := 5) (S := fun w' => w'.cell? ⟨gb264, 0, none⟩ = some (.int .i64 t260) ∧ w'.cell? ⟨gb264, 1, none⟩ = some (.slice Ao30 t261.length co30) ∧ w'.cell? ⟨gb251, 0, none⟩ = some (.int .i64 a0_0) ∧ w'.cell? ⟨gb251, 1, none⟩ = some (.slice A0_1 l0_1.length c0_1)) (ds := []) #[false, false, false, false, false] (by kernel_rfl) rfl rfl ⟨(blk_cell BK264.out 0).trans rfl, (blk_cell BK264.out 1).trans rfl, (blk_cell BK251.out 0).trans rfl, (blk_cell BK251.out 1).trans rfl⟩ (fun hHeld => ?_)
        generalize w31.drew = w34 at HO256 HO259 HO263 HO267 BK251 BK264 HB hHeld ⊢
        refine take_ (i := 0) (N := some 27) (v := ?_) (a' := ?_) #[true, false, false, false, false] rfl rfl (by kernel_rfl) (fun _ _ _ h => h) (Or.inl ⟨by rfl, ?_⟩) hHeld ?_ ?_
        rotate_left
        · rintro w' ⟨s0, s1, s2, s3⟩
          go_simp
          with_reducible rfl
        rotate_left
        · simp only [Act.put, List.setIfInBounds_toArray, List.set_cons_zero, List.set_cons_succ, i64_w, i32_w]
          rfl
        refine take_ (i := 1) (N := some 28) (v := ?_) (a' := ?_) #[true, true, false, false, false] rfl rfl (by kernel_rfl) (fun _ _ _ h => h) (Or.inl ⟨by rfl, ?_⟩) hHeld ?_ ?_
        rotate_left
        · rintro w' ⟨s0, s1, s2, s3⟩
          go_simp
          with_reducible rfl
        rotate_left
        · simp only [Act.put, List.setIfInBounds_toArray, List.set_cons_zero, List.set_cons_succ, i64_w, i32_w]
          rfl
        refine one_ (i := 2) (N := some 29) #[true, true, true, false, false] rfl rfl (by kernel_rfl) (by decide) (fun K hK => ?_)
        refine goes_ Try.func34 (by kernel_rfl) rfl #[.agg #[.int .i64 a0_0, .slice A0_1 l0_1.length c0_1]] (by rfl) rfl rfl (by (try simp only [List.map_toArray, List.map_cons, List.map_nil]); first | done | rfl | (simp only [List.length_drop, List.length_take]; rfl)) ?_
        with_reducible refine (laws_toDescriptor.calls k a0_0 _ _ l0_1 t269 t270 _ ?side1 ?side2 A13.out).mono ?_
        (case side1 => repeat (first | exact (Kd.C_below HR0_1.out HB.out) | (with_reducible refine Kd.C_alloc ?_ _) | (with_reducible refine Kd.C_drewN ?_ _) | (with_reducible refine Kd.C_drew ?_)))
        (case side2 => exact HC0_1.out)
        rintro e w35 ⟨v271, rfl, ho0, hb⟩
        refine ⟨_, rfl, ?_⟩
        have n0_ := Aside0.mk (Kd.R_elder' (by (with_reducible repeat (first | apply Kd.R_alloc | apply Kd.R_drewN | apply Kd.R_drew)); exact HO256.out) (Kd.R_base ho0) hb)
        have n1_ := Aside0.mk (Kd.R_below (by (with_reducible repeat (first | apply Kd.R_alloc | apply Kd.R_drewN | apply Kd.R_drew)); exact HO259.out) hb)
        have n2_ := Aside0.mk (Kd.R_elder' (by (with_reducible repeat (first | apply Kd.R_alloc | apply Kd.R_drewN | apply Kd.R_drew)); exact HO263.out) (Kd.R_base ho0) hb)
        have n3_ := Aside0.mk (Kd.R_below (by (with_reducible repeat (first | apply Kd.R_alloc | apply Kd.R_drewN | apply Kd.R_drew)); exact HO267.out) hb)
        have n4_ := Aside0.mk (Kd.R_lower (Kd.R_new' (Kd.R_new' ho0 (Kd.R_lt (by (with_reducible repeat (first | apply Kd.R_alloc | apply Kd.R_drewN | apply Kd.R_drew)); exact HO256.out))) (Kd.R_lt (by (with_reducible repeat (first | apply Kd.R_alloc | apply Kd.R_drewN | apply Kd.R_drew)); exact HO263.out))) (below_size (by repeat (first | (with_reducible first | exact HB.out | apply below_alloc | apply pw_below_drewN | apply below_drew1 | refine below_set ?_ GE251.out | refine below_set ?_ GE264.out) | exact HB.out))))
        have n5_ := Aside0.mk (blk_below (g := gb251) (o := .cells #[.int .i64 a0_0, .slice A0_1 l0_1.length c0_1] 51 (0, 0)) (by (with_reducible repeat (first | refine blk_drewN ?_ _ | refine blk_drew ?_ | refine blk_alloc ?_ _)); exact BK251.out) hb)
        have n6_ := Aside0.mk (blk_below (g := gb264) (o := .cells #[.int .i64 t260, .slice Ao30 t261.length co30] 56 (0, 0)) (by (with_reducible repeat (first | refine blk_drewN ?_ _ | refine blk_drew ?_ | refine blk_alloc ?_ _)); exact BK264.out) hb)
        have n7_ := Aside0.mk (below_step (by repeat (first | (with_reducible first | exact HB.out | apply below_alloc | apply pw_below_drewN | apply below_drew1 | refine below_set ?_ GE251.out | refine below_set ?_ GE264.out) | exact HB.out)) hb)
        clear HO256
        clear HO259
        clear HO263
        clear HO267
        clear BK251
        clear BK264
        clear HB
        have HO256 := n0_
        have HO259 := n1_
        have HO263 := n2_
        have HO267 := n3_
        have HO272 := n4_
        have BK251 := n5_
        have BK264 := n6_
        have HB := n7_
        clear n0_ n1_ n2_ n3_ n4_ n5_ n6_ n7_
        (try clear hb)
        (try clear hb2)
        (try clear hk)
        (try clear hi)
        (try clear ho0)
        obtain ⟨Ao36, co36, eo36⟩ := Kd.R_slice HO272.out
        (first | subst eo36 | (injection eo36 with f1_ f2_ f3_; have f4_ := f1_.symm; have f5_ := f3_.symm; clear f1_ f2_ f3_; subst f4_; subst f5_))
        refine hK.out _ _ ⟨(blk_cell BK264.out 0).trans rfl, (blk_cell BK264.out 1).trans rfl, (blk_cell BK251.out 0).trans rfl, (blk_cell BK251.out 1).trans rfl⟩ (fun hHeld => ?_)
        clear hK K
        refine norm_ (a' := ?_) ?_ ?_
        rotate_left
        · show Act.put _ (some 29) _ = _
          simp only [Act.put, List.setIfInBounds_toArray, List.set_cons_zero, List.set_cons_succ, i64_w, i32_w]
          rfl
        refine one_ (i := 3) (N := some 30) #[true, true, true, true, false] rfl rfl (by kernel_rfl) (by decide) (fun K hK => ?_)
        refine goes_ Try.func36 (by kernel_rfl) rfl #[.agg #[.int .i64 t260, .slice Ao30 t261.length co30], .agg #[.int .i64 t269, .slice Ao36 t270.length co36]] (by rfl) rfl rfl (by (try simp only [List.map_toArray, List.map_cons, List.map_nil]); first | done | rfl | (simp only [List.length_drop, List.length_take]; rfl)) ?_
        with_reducible refine (laws_eqDescriptor.calls k t260 _ _ t261 t269 _ _ t270 true _ ?side1 ?side2 ?side3 ?side4 A14.out).mono ?_
        (case side1 => repeat (first | exact (Kd.R_reads' HO263.out).2.2 | (with_reducible refine Kd.C_alloc ?_ _) | (with_reducible refine Kd.C_drewN ?_ _) | (with_reducible refine Kd.C_drew ?_)))
        (case side2 => exact (Kd.R_reads' HO263.out).2.1)
        (case side3 => repeat (first | exact (Kd.R_reads' HO272.out).2.2 | (with_reducible refine Kd.C_alloc ?_ _) | (with_reducible refine Kd.C_drewN ?_ _) | (with_reducible refine Kd.C_drew ?_)))
        (case side4 => exact (Kd.R_reads' HO272.out).2.1)
        rintro e w37 ⟨rfl, hb⟩
        refine ⟨_, rfl, ?_⟩
        have n0_ := Aside0.mk (Kd.R_below (by (with_reducible repeat (first | apply Kd.R_alloc | apply Kd.R_drewN | apply Kd.R_drew)); exact HO256.out) hb)
        have n1_ := Aside0.mk (Kd.R_below (by (with_reducible repeat (first | apply Kd.R_alloc | apply Kd.R_drewN | apply Kd.R_drew)); exact HO259.out) hb)
        have n2_ := Aside0.mk (Kd.R_below (by (with_reducible repeat (first | apply Kd.R_alloc | apply Kd.R_drewN | apply Kd.R_drew)); exact HO263.out) hb)
        have n3_ := Aside0.mk (Kd.R_below (by (with_reducible repeat (first | apply Kd.R_alloc | apply Kd.R_drewN | apply Kd.R_drew)); exact HO267.out) hb)
        have n4_ := Aside0.mk (Kd.R_below (by (with_reducible repeat (first | apply Kd.R_alloc | apply Kd.R_drewN | apply Kd.R_drew)); exact HO272.out) hb)
        have n5_ := Aside0.mk (blk_below (g := gb251) (o := .cells #[.int .i64 a0_0, .slice A0_1 l0_1.length c0_1] 51 (0, 0)) (by (with_reducible repeat (first | refine blk_drewN ?_ _ | refine blk_drew ?_ | refine blk_alloc ?_ _)); exact BK251.out) hb)
        have n6_ := Aside0.mk (blk_below (g := gb264) (o := .cells #[.int .i64 t260, .slice Ao30 t261.length co30] 56 (0, 0)) (by (with_reducible repeat (first | refine blk_drewN ?_ _ | refine blk_drew ?_ | refine blk_alloc ?_ _)); exact BK264.out) hb)
        have n7_ := Aside0.mk (below_step (by repeat (first | (with_reducible first | exact HB.out | apply below_alloc | apply pw_below_drewN | apply below_drew1 | refine below_set ?_ GE251.out | refine below_set ?_ GE264.out) | exact HB.out)) hb)
        clear HO256
        clear HO259
        clear HO263
        clear HO267
        clear HO272
        clear BK251
        clear BK264
        clear HB
        have HO256 := n0_
        have HO259 := n1_
        have HO263 := n2_
        have HO267 := n3_
        have HO272 := n4_
        have BK251 := n5_
        have BK264 := n6_
        have HB := n7_
        clear n0_ n1_ n2_ n3_ n4_ n5_ n6_ n7_
        (try clear hb)
        (try clear hb2)
        (try clear hk)
        (try clear hi)
        refine hK.out _ _ ⟨(blk_cell BK264.out 0).trans rfl, (blk_cell BK264.out 1).trans rfl, (blk_cell BK251.out 0).trans rfl, (blk_cell BK251.out 1).trans rfl⟩ (fun hHeld => ?_)
        clear hK K
        refine norm_ (a' := ?_) ?_ ?_
        rotate_left
        · show Act.put _ (some 30) _ = _
          simp only [Act.put, List.setIfInBounds_toArray, List.set_cons_zero, List.set_cons_succ, i64_w, i32_w]
          rfl
        refine pure_ (i := 4) (N := some 31) (v := ?_) (a' := ?_) #[true, true, true, true, true] rfl rfl (by kernel_rfl) (fun _ _ _ h => h) (Or.inl ⟨by rfl, ?_⟩) ?_ ?_
        rotate_left
        · intro w'
          go_simp
          with_reducible rfl
        rotate_left
        · simp only [Act.put, List.setIfInBounds_toArray, List.set_cons_zero, List.set_cons_succ, i64_w, i32_w]
          rfl
        refine done_ (by kernel_rfl) ?_
        have hcz38_0 : w37.cell? ⟨gb264, 0, none⟩ = some (.int .i64 t260) := (blk_cell BK264.out 0).trans rfl
        have hcz38_1 : w37.cell? ⟨gb264, 1, none⟩ = some (.slice Ao30 t261.length co30) := (blk_cell BK264.out 1).trans rfl
        have hfz38_0 := blk_frozen BK264.out 0
        have hfz38_1 := blk_frozen BK264.out 1
        go_upto_region 14 with (first | ((with_reducible refine gate_callee (f := 37) rfl ?_); refine goesL_ (some 34) rfl rfl Try.func37 (by kernel_rfl) rfl #[.agg #[.int .i64 t260, .slice Ao30 t261.length co30], .int .i64 1] rfl (by (try simp only [List.map_toArray, List.map_cons, List.map_nil]); first | done | rfl | (simp only [List.length_drop, List.length_take]; rfl)) ?_; (with_reducible refine (laws_markDescriptor.calls k t260 (fun k_ => some k_ = (.slice Ao30 t261.length co30 : Value).ownBlock) (.slice Ao30 t261.length co30) t261 1 t274 t275 w _ ?side1 ?side2 A16.out).mono ?_); (case side1 => repeat (first | (with_reducible first | exact HB.out | apply below_alloc | apply pw_below_drewN | apply below_drew1 | refine below_set ?_ GE251.out | refine below_set ?_ GE264.out) | exact HB.out)); (case side2 => exact Kd.R_tight rfl HO263.out); rintro e w39 ⟨rfl, hy0, hb, hkp⟩; refine ⟨_, rfl, ?_⟩; have n0_ := Aside0.mk (blk_kept (by (with_reducible repeat (first | refine blk_drewN ?_ _ | refine blk_drew ?_ | refine blk_alloc ?_ _)); exact BK251.out) hkp (fun hs_ => (fun e_ => (Kd.R_ne HO263.out BK251.out (by decide)) e_) hs_)); have n1_ := Aside0.mk (Kd.R_mono (ok' := fun k_ => some k_ ≠ (.slice Ao30 t261.length co30 : Value).ownBlock ∧ some k_ ≠ (.slice Ao36 t270.length co36 : Value).ownBlock) (Kd.R_keptB (HO256.out) hkp (fun k_ hk_ hs_ => by first | exact (hk_.1.2) hs_ | exact hk_.1 hs_ | exact hk_.2 hs_)) (fun k_ hk_ => by first | exact ⟨hk_.1.1.2, hk_.1.2⟩ | exact ⟨hk_.1.1, hk_.1.2⟩)); have n2_ := Aside0.mk (Kd.R_mono (ok' := fun k_ => some k_ ≠ (.slice Ao32 t265.length co32 : Value).ownBlock) (Kd.R_keptB ((Kd.R_apart' HO259.out (Kd.R_typed HO263.out) (by decide))) hkp (fun k_ hk_ hs_ => by first | exact (hk_.2) hs_ | exact hk_.1 hs_ | exact hk_.2 hs_)) (fun k_ hk_ => by first | exact hk_.1.1.2 | exact hk_.1.1)); have n3_ := Aside0.mk (Kd.R_reok rfl hy0 (fun k_ e_ => HO263.out.1 k_ e_)); have n4_ := Aside0.mk (blk_kept (by (with_reducible repeat (first | refine blk_drewN ?_ _ | refine blk_drew ?_ | refine blk_alloc ?_ _)); exact BK264.out) hkp (fun hs_ => (fun e_ => (Kd.R_ne HO263.out BK264.out (by decide)) e_) hs_)); have n5_ := Aside0.mk (Kd.R_mono (ok' := fun k_ => some k_ ≠ (.slice Ao33 t257.length co33 : Value).ownBlock) (Kd.R_keptB ((Kd.R_apart' HO267.out (Kd.R_typed HO263.out) (by decide))) hkp (fun k_ hk_ hs_ => by first | exact (hk_.2) hs_ | exact hk_.1 hs_ | exact hk_.2 hs_)) (fun k_ hk_ => by first | exact hk_.1.1.2 | exact hk_.1.1)); have n6_ := Aside0.mk (Kd.R_mono (ok' := fun k_ => some k_ ≠ (.slice Ao23 t254.length co23 : Value).ownBlock ∧ some k_ ≠ (.slice Ao30 t261.length co30 : Value).ownBlock) (Kd.R_keptB (HO272.out) hkp (fun k_ hk_ hs_ => by first | exact (hk_.2) hs_ | exact hk_.1 hs_ | exact hk_.2 hs_)) (fun k_ hk_ => by first | exact ⟨hk_.1.1.2, hk_.1.2⟩ | exact ⟨hk_.1.1, hk_.1.2⟩)); have n7_ := Aside0.mk (hb); clear BK251; clear HO256; clear HO259; clear HO263; clear BK264; clear HO267; clear HO272; clear HB; have BK251 := n0_; have HO256 := n1_; have HO259 := n2_; have HO263 := n3_; have BK264 := n4_; have HO267 := n5_; have HO272 := n6_; have HB := n7_; clear n0_ n1_ n2_ n3_ n4_ n5_ n6_ n7_; (try clear hb); (try clear hkp); (try clear hy0)))
        (try simp only [Act.put, List.setIfInBounds_toArray, List.set_cons_zero, List.set_cons_succ])
        go_cut [42] (fun v42 wc => ∃ (kq : Nat) (x42_16 : Bool), v42 = .bool x42_16 ∧ Aside0 (laws_FnExactEncodeDescriptor.j0 kq t257 t265 x42_16 a0_0 l0_1 = some r) ∧ Aside0 (kq ≤ k) ∧ Aside0 (Kd.R (Kd.int .u8) 5 wc w.heap.size (fun k_ => some k_ ≠ ((.slice Ao32 t265.length co32) : Value).ownBlock) (.slice Ao33 t257.length co33) t257) ∧ Aside0 (Kd.R (Kd.int .u8) 5 wc w.heap.size (fun k_ => some k_ ≠ ((.slice Ao33 t257.length co33) : Value).ownBlock) (.slice Ao32 t265.length co32) t265) ∧ Aside0 (Kd.R k86 86 wc w.heap.size (fun _ => True) (.slice Ao30 t261.length co30) t275) ∧ Aside0 (wc.heap[gb251]? = some (.cells #[.int .i64 a0_0, (.slice A0_1 l0_1.length c0_1)] 51 (0, 0))) ∧ Aside0 (wc.heap[gb264]? = some (.cells #[.int .i64 t260, (.slice Ao30 t261.length co30)] 56 (0, 0))) ∧ Aside0 (Below w.heap.size w wc))
        case first =>
          have H := HC17.out
          clear HC17
          by_cases c40 : t274 < 0
          · rw [if_pos c40] at H
            have c40b0 : decide (t274 < 0) = true := decide_eq_true c40
            clear c40
            (first | rw [c40b0] | (simp only [i64_w, i32_w]; rw [c40b0]) | skip)
            have H' := Aside0.mk H
            clear H
            go_wp2
            go_meet
            case rel => exact ⟨_, (true), (by first | rfl | (simp; done) | (simp [*]; done)), H', ⟨by first | omega | exact Nat.le_refl _⟩, ⟨by (with_reducible repeat (first | apply Kd.R_alloc | apply Kd.R_drewN | apply Kd.R_drew)); exact HO259.out⟩, ⟨by (with_reducible repeat (first | apply Kd.R_alloc | apply Kd.R_drewN | apply Kd.R_drew)); exact HO267.out⟩, ⟨by (with_reducible repeat (first | apply Kd.R_alloc | apply Kd.R_drewN | apply Kd.R_drew)); exact Kd.R_mono HO263.out (fun _ hk => trivial)⟩, ⟨by (with_reducible repeat (first | refine blk_drewN ?_ _ | refine blk_drew ?_ | refine blk_alloc ?_ _)); exact BK251.out⟩, ⟨by (with_reducible repeat (first | refine blk_drewN ?_ _ | refine blk_drew ?_ | refine blk_alloc ?_ _)); exact BK264.out⟩, ⟨by repeat (first | (with_reducible first | exact HB.out | apply below_alloc | apply pw_below_drewN | apply below_drew1 | refine below_set ?_ GE251.out | refine below_set ?_ GE264.out) | exact HB.out)⟩⟩
          · rw [if_neg c40] at H
            have c40b0 : decide (t274 < 0) = false := decide_eq_false c40
            clear c40
            (first | rw [c40b0] | (simp only [i64_w, i32_w]; rw [c40b0]) | skip)
            replace H := Option.bind_eq_some_iff.mp H
            obtain ⟨t276, A410, H⟩ := H
            replace H : (laws_FnExactEncodeDescriptor.j0 k t257 t265 (!t276) a0_0 l0_1) = some r := H
            have A41 := Aside0.mk A410
            clear A410
            have H' := Aside0.mk H
            clear H
            go_wp2_with (first | (go_at_call 14; (with_reducible refine (laws_eqByteS.calls k _ _ t265 _ _ t257 t276 _ ?side1 ?side2 ?side3 ?side4 A41.out).mono ?_); (case side1 => repeat (first | exact (Kd.R_reads' HO267.out).2.2 | (with_reducible refine Kd.C_alloc ?_ _) | (with_reducible refine Kd.C_drewN ?_ _) | (with_reducible refine Kd.C_drew ?_))); (case side2 => exact (Kd.R_reads' HO267.out).2.1); (case side3 => repeat (first | exact (Kd.R_reads' HO259.out).2.2 | (with_reducible refine Kd.C_alloc ?_ _) | (with_reducible refine Kd.C_drewN ?_ _) | (with_reducible refine Kd.C_drew ?_))); (case side4 => exact (Kd.R_reads' HO259.out).2.1); rintro e w' ⟨rfl, ⟨nd, rfl⟩⟩))
            go_meet
            case rel => exact ⟨_, (!t276), (by first | rfl | (simp; done) | (simp [*]; done)), H', ⟨by first | omega | exact Nat.le_refl _⟩, ⟨by (with_reducible repeat (first | apply Kd.R_alloc | apply Kd.R_drewN | apply Kd.R_drew)); exact HO259.out⟩, ⟨by (with_reducible repeat (first | apply Kd.R_alloc | apply Kd.R_drewN | apply Kd.R_drew)); exact HO267.out⟩, ⟨by (with_reducible repeat (first | apply Kd.R_alloc | apply Kd.R_drewN | apply Kd.R_drew)); exact Kd.R_mono HO263.out (fun _ hk => trivial)⟩, ⟨by (with_reducible repeat (first | refine blk_drewN ?_ _ | refine blk_drew ?_ | refine blk_alloc ?_ _)); exact BK251.out⟩, ⟨by (with_reducible repeat (first | refine blk_drewN ?_ _ | refine blk_drew ?_ | refine blk_alloc ?_ _)); exact BK264.out⟩, ⟨by repeat (first | (with_reducible first | exact HB.out | apply below_alloc | apply pw_below_drewN | apply below_drew1 | refine below_set ?_ GE251.out | refine below_set ?_ GE264.out) | exact HB.out)⟩⟩
        case rest =>
          clear HC17
          try clear c1
          try clear c2
          try clear p2
          try clear c3
          try clear c3b0
          try clear c4
          try clear c7
          try clear c12
          try clear c14
          try clear c15
          try clear c28
          try clear c32
          try clear c33
          try clear c34
          try clear c35
          try clear c36
          try clear c37
          try clear c40
          try clear c40b0
          try clear hcz19_0
          try clear hcz19_1
          try clear hcz21_0
          try clear hcz21_1
          try clear hcz25_0
          try clear hcz25_1
          try clear hcz29_0
          try clear hcz29_1
          try clear hcz38_0
          try clear hcz38_1
          try clear hcz5_0
          try clear hcz5_1
          try clear hfz19_0
          try clear hfz19_1
          try clear hfz21_0
          try clear hfz21_1
          try clear hfz25_0
          try clear hfz25_1
          try clear hfz29_0
          try clear hfz29_1
          try clear hfz38_0
          try clear hfz38_1
          try clear hfz5_0
          try clear hfz5_1
          obtain ⟨kq, x42_16, rfl, HA, HJ16, HO_4, HO_6, HO_265001, BK251, BK264, HB⟩ := hcut
          have hl265001_16 := (Kd.R_reads' HO_265001.out).1
          rw [hl265001_16] at HO_265001
          (try simp only [hl265001_16])
          (try simp only [hl265001_16] at BK251)
          (try simp only [hl265001_16] at BK264)
          (try simp only [hl265001_16] at HO_4)
          (try simp only [hl265001_16] at HO_6)
          cases kq with
          | zero => exact absurd HA.out (by simp [laws_FnExactEncodeDescriptor.j0])
          | succ kj16 =>
            have H := HA.out
            clear HA
            simp only [laws_FnExactEncodeDescriptor.j0] at H
            by_cases c42 : x42_16 = true
            · subst c42
              have H1 : (some false) = some r := by rw [if_pos rfl] at H; exact H
              clear H
              have H := H1
              clear H1
              exact absurd ((Option.some.inj H).trans hrt.out) (by simp)
            · replace c42 := Bool.eq_false_iff.mpr c42
              subst c42
              have H1 : ((laws_markByteS.f kj16 t265 1).bind fun bt277 => ((laws_heldByteS.f kj16 bt277.2 1).bind fun t279 => (if t279 < 0 then (some false) else (if t279 = bt277.1 then ((laws_toDescriptor.f kj16 a0_0 l0_1).bind fun bt280 => ((impl_EncodeDescriptor.f kj16 bt280.1 bt280.2).bind fun t284 => ((laws_eqByteS.f kj16 t284 t257).bind fun t287 => (if t287 = true then ((laws_heldByteS.f kj16 bt277.2 1).bind fun t288 => (if t288 < 0 then (some false) else (if t288 = bt277.1 then (some true) else (some false)))) else (some false))))) else (some false))))) = some r := by rw [if_neg (show ¬ (false = true) by decide)] at H; exact H
              clear H
              have H := H1
              clear H1
              replace H := Option.bind_eq_some_iff.mp H
              obtain ⟨⟨t277, t278⟩, A430, H⟩ := H
              replace H : ((laws_heldByteS.f kj16 t278 1).bind fun t279 => (if t279 < 0 then (some false) else (if t279 = t277 then ((laws_toDescriptor.f kj16 a0_0 l0_1).bind fun bt280 => ((impl_EncodeDescriptor.f kj16 bt280.1 bt280.2).bind fun t284 => ((laws_eqByteS.f kj16 t284 t257).bind fun t287 => (if t287 = true then ((laws_heldByteS.f kj16 t278 1).bind fun t288 => (if t288 < 0 then (some false) else (if t288 = t277 then (some true) else (some false)))) else (some false))))) else (some false)))) = some r := H
              have A43 := Aside0.mk A430
              clear A430
              replace H := Option.bind_eq_some_iff.mp H
              obtain ⟨t279, A440, H⟩ := H
              replace H : (if t279 < 0 then (some false) else (if t279 = t277 then ((laws_toDescriptor.f kj16 a0_0 l0_1).bind fun bt280 => ((impl_EncodeDescriptor.f kj16 bt280.1 bt280.2).bind fun t284 => ((laws_eqByteS.f kj16 t284 t257).bind fun t287 => (if t287 = true then ((laws_heldByteS.f kj16 t278 1).bind fun t288 => (if t288 < 0 then (some false) else (if t288 = t277 then (some true) else (some false)))) else (some false))))) else (some false))) = some r := H
              have A44 := Aside0.mk A440
              clear A440
              by_cases c45 : t279 < 0
              · rw [if_pos c45] at H
                have c45b0 : decide (t279 < 0) = true := decide_eq_true c45
                clear c45
                exact absurd ((Option.some.inj H).trans hrt.out) (by simp)
              · rw [if_neg c45] at H
                have c45b0 : decide (t279 < 0) = false := decide_eq_false c45
                clear c45
                by_cases c46 : t279 = t277
                · rw [if_pos c46] at H
                  have c46b0 : (t279 == t277) = true := beq_iff_eq.mpr c46
                  have c46b1 : (t279 != t277) = false := bne_eq_false_iff_eq.mpr c46
                  clear c46
                  replace H := Option.bind_eq_some_iff.mp H
                  obtain ⟨⟨t280, t281⟩, A470, H⟩ := H
                  replace H : ((impl_EncodeDescriptor.f kj16 t280 t281).bind fun t284 => ((laws_eqByteS.f kj16 t284 t257).bind fun t287 => (if t287 = true then ((laws_heldByteS.f kj16 t278 1).bind fun t288 => (if t288 < 0 then (some false) else (if t288 = t277 then (some true) else (some false)))) else (some false)))) = some r := H
                  have A47 := Aside0.mk A470
                  clear A470
                  replace H := Option.bind_eq_some_iff.mp H
                  obtain ⟨t284, A480, H⟩ := H
                  replace H : ((laws_eqByteS.f kj16 t284 t257).bind fun t287 => (if t287 = true then ((laws_heldByteS.f kj16 t278 1).bind fun t288 => (if t288 < 0 then (some false) else (if t288 = t277 then (some true) else (some false)))) else (some false))) = some r := H
                  have A48 := Aside0.mk A480
                  clear A480
                  replace H := Option.bind_eq_some_iff.mp H
                  obtain ⟨t287, A490, H⟩ := H
                  replace H : (if t287 = true then ((laws_heldByteS.f kj16 t278 1).bind fun t288 => (if t288 < 0 then (some false) else (if t288 = t277 then (some true) else (some false)))) else (some false)) = some r := H
                  have A49 := Aside0.mk A490
                  clear A490
                  by_cases c50 : t287 = true
                  · subst c50
                    have H1 : ((laws_heldByteS.f kj16 t278 1).bind fun t288 => (if t288 < 0 then (some false) else (if t288 = t277 then (some true) else (some false)))) = some r := by rw [if_pos rfl] at H; exact H
                    clear H
                    have H := H1
                    clear H1
                    replace H := Option.bind_eq_some_iff.mp H
                    obtain ⟨t288, A510, H⟩ := H
                    replace H : (if t288 < 0 then (some false) else (if t288 = t277 then (some true) else (some false))) = some r := H
                    have A51 := Aside0.mk A510
                    clear A510
                    by_cases c52 : t288 < 0
                    · rw [if_pos c52] at H
                      have c52b0 : decide (t288 < 0) = true := decide_eq_true c52
                      clear c52
                      exact absurd ((Option.some.inj H).trans hrt.out) (by simp)
                    · rw [if_neg c52] at H
                      have c52b0 : decide (t288 < 0) = false := decide_eq_false c52
                      clear c52
                      by_cases c53 : t288 = t277
                      · rw [if_pos c53] at H
                        have c53b0 : (t288 == t277) = true := beq_iff_eq.mpr c53
                        have c53b1 : (t288 != t277) = false := bne_eq_false_iff_eq.mpr c53
                        clear c53
                        obtain rfl := Option.some.inj H
                        go_wp2_with (first | ((with_reducible refine gate_callee (f := 17) rfl ?_); refine goesL_ (some 45) rfl rfl Try.func17 (by kernel_rfl) rfl #[.slice Ao32 t265.length co32, .int .i64 1] rfl (by (try simp only [List.map_toArray, List.map_cons, List.map_nil]); first | done | rfl | (simp only [List.length_drop, List.length_take]; rfl)) ?_; (with_reducible refine (laws_markByteS.calls kj16 (fun k_ => some k_ = (.slice Ao32 t265.length co32 : Value).ownBlock) (.slice Ao32 t265.length co32) t265 1 t277 t278 w _ ?side1 ?side2 A43.out).mono ?_); (case side1 => repeat (first | (with_reducible first | exact HB.out | apply below_alloc | apply pw_below_drewN | apply below_drew1 | refine below_set ?_ GE251.out | refine below_set ?_ GE264.out) | exact HB.out)); (case side2 => exact Kd.R_tight rfl HO_6.out); rintro e w54 ⟨rfl, hy0, hb, hkp⟩; refine ⟨_, rfl, ?_⟩; have n0_ := Aside0.mk (Kd.R_mono (ok' := fun k_ => some k_ ≠ (.slice Ao32 t265.length co32 : Value).ownBlock) (Kd.R_keptB (HO_4.out) hkp (fun k_ hk_ hs_ => by first | exact (hk_) hs_ | exact hk_.1 hs_ | exact hk_.2 hs_)) (fun k_ hk_ => hk_.1)); have n1_ := Aside0.mk (Kd.R_reok rfl hy0 (fun k_ e_ => HO_6.out.1 k_ e_)); have n2_ := Aside0.mk (Kd.R_mono (ok' := fun k_ => True) (Kd.R_keptB ((Kd.R_apart' HO_265001.out (Kd.R_typed HO_6.out) (by decide))) hkp (fun k_ hk_ hs_ => by first | exact (hk_.2) hs_ | exact hk_.1 hs_ | exact hk_.2 hs_)) (fun k_ hk_ => trivial)); have n3_ := Aside0.mk (blk_kept (by (with_reducible repeat (first | refine blk_drewN ?_ _ | refine blk_drew ?_ | refine blk_alloc ?_ _)); exact BK251.out) hkp (fun hs_ => (fun e_ => (Kd.R_ne HO_6.out BK251.out (by decide)) e_) hs_)); have n4_ := Aside0.mk (blk_kept (by (with_reducible repeat (first | refine blk_drewN ?_ _ | refine blk_drew ?_ | refine blk_alloc ?_ _)); exact BK264.out) hkp (fun hs_ => (fun e_ => (Kd.R_ne HO_6.out BK264.out (by decide)) e_) hs_)); have n5_ := Aside0.mk (hb); clear HO_4; clear HO_6; clear HO_265001; clear BK251; clear BK264; clear HB; have HO_4 := n0_; have HO_6 := n1_; have HO_265001 := n2_; have BK251 := n3_; have BK264 := n4_; have HB := n5_; clear n0_ n1_ n2_ n3_ n4_ n5_; (try clear hb); (try clear hkp); (try clear hy0)) | ((with_reducible refine gate_callee (f := 18) rfl ?_); refine goesL_ (some 48) rfl rfl Try.func18 (by kernel_rfl) rfl #[.slice Ao32 t278.length co32, .int .i64 1] rfl (by (try simp only [List.map_toArray, List.map_cons, List.map_nil]); first | done | (rw [show t278.length = t265.length from (Kd.R_reads' HO_6.out).1.symm] <;> rfl) | rfl | (simp only [List.length_drop, List.length_take]; rfl)) ?_; (with_reducible refine (laws_heldByteS.calls kj16 _ _ t278 1 t279 _ ?side1 ?side2 A44.out).mono ?_); (case side1 => repeat (first | exact (Kd.R_reads' HO_6.out).2.2 | (with_reducible refine Kd.C_alloc ?_ _) | (with_reducible refine Kd.C_drewN ?_ _) | (with_reducible refine Kd.C_drew ?_))); (case side2 => rw [show t278.length = t265.length from (Kd.R_reads' HO_6.out).1.symm]; exact (Kd.R_reads' HO_6.out).2.1); rintro e w' ⟨rfl, ⟨nd, rfl⟩⟩; refine ⟨_, rfl, ?_⟩; have hnb55 := NB251_264.out; have hnc55 := NB264_251.out; have hcz56_0 : w54.cell? ⟨gb251, 0, none⟩ = some (.int .i64 a0_0) := (blk_cell BK251.out 0).trans rfl; have hcz56_1 : w54.cell? ⟨gb251, 1, none⟩ = some (.slice A0_1 l0_1.length c0_1) := (blk_cell BK251.out 1).trans rfl; have hfz56_0 := blk_frozen BK251.out 0; have hfz56_1 := blk_frozen BK251.out 1) | ((with_reducible refine gate_callee (f := 34) rfl ?_); refine goesL_ (some 55) rfl rfl Try.func34 (by kernel_rfl) rfl #[.agg #[.int .i64 a0_0, .slice A0_1 l0_1.length c0_1]] rfl (by (try simp only [List.map_toArray, List.map_cons, List.map_nil]); first | done | rfl | (simp only [List.length_drop, List.length_take]; rfl)) ?_; (with_reducible refine (laws_toDescriptor.calls kj16 a0_0 _ _ l0_1 t280 t281 _ ?side1 ?side2 A47.out).mono ?_); (case side1 => repeat (first | exact (Kd.C_below HR0_1.out (by repeat (first | (with_reducible first | exact HB.out | apply below_alloc | apply pw_below_drewN | apply below_drew1 | refine below_set ?_ GE251.out | refine below_set ?_ GE264.out) | exact HB.out))) | (with_reducible refine Kd.C_alloc ?_ _) | (with_reducible refine Kd.C_drewN ?_ _) | (with_reducible refine Kd.C_drew ?_))); (case side2 => exact HC0_1.out); rintro e w57 ⟨v282, rfl, ho0, hb⟩; refine ⟨_, rfl, ?_⟩; have n0_ := Aside0.mk (Kd.R_below (by (with_reducible repeat (first | apply Kd.R_alloc | apply Kd.R_drewN | apply Kd.R_drew)); exact HO_4.out) hb); have n1_ := Aside0.mk (Kd.R_below (by (with_reducible repeat (first | apply Kd.R_alloc | apply Kd.R_drewN | apply Kd.R_drew)); exact HO_6.out) hb); have n2_ := Aside0.mk (Kd.R_elder' (by (with_reducible repeat (first | apply Kd.R_alloc | apply Kd.R_drewN | apply Kd.R_drew)); exact HO_265001.out) (Kd.R_base ho0) hb); have n3_ := Aside0.mk (Kd.R_lower (Kd.R_new' ho0 (Kd.R_lt (by (with_reducible repeat (first | apply Kd.R_alloc | apply Kd.R_drewN | apply Kd.R_drew)); exact HO_265001.out))) (below_size (by repeat (first | (with_reducible first | exact HB.out | apply below_alloc | apply pw_below_drewN | apply below_drew1 | refine below_set ?_ GE251.out | refine below_set ?_ GE264.out) | exact HB.out)))); have n4_ := Aside0.mk (blk_below (g := gb251) (o := .cells #[.int .i64 a0_0, .slice A0_1 l0_1.length c0_1] 51 (0, 0)) (by (with_reducible repeat (first | refine blk_drewN ?_ _ | refine blk_drew ?_ | refine blk_alloc ?_ _)); exact BK251.out) hb); have n5_ := Aside0.mk (blk_below (g := gb264) (o := .cells #[.int .i64 t260, .slice Ao30 t275.length co30] 56 (0, 0)) (by (with_reducible repeat (first | refine blk_drewN ?_ _ | refine blk_drew ?_ | refine blk_alloc ?_ _)); exact BK264.out) hb); have n6_ := Aside0.mk (below_step (by repeat (first | (with_reducible first | exact HB.out | apply below_alloc | apply pw_below_drewN | apply below_drew1 | refine below_set ?_ GE251.out | refine below_set ?_ GE264.out) | exact HB.out)) hb); clear HO_4; clear HO_6; clear HO_265001; clear BK251; clear BK264; clear HB; have HO_4 := n0_; have HO_6 := n1_; have HO_265001 := n2_; have HO283 := n3_; have BK251 := n4_; have BK264 := n5_; have HB := n6_; clear n0_ n1_ n2_ n3_ n4_ n5_ n6_; (try clear hb); (try clear hb2); (try clear hk); (try clear hi); (try clear ho0); obtain ⟨Ao58, co58, eo58⟩ := Kd.R_slice HO283.out; subst eo58) | ((with_reducible refine gate_callee (f := 35) rfl ?_); refine goesL_ (some 56) rfl rfl Try.func35 (by kernel_rfl) rfl #[.agg #[.int .i64 t280, .slice Ao58 t281.length co58]] rfl (by (try simp only [List.map_toArray, List.map_cons, List.map_nil]); first | done | rfl | (simp only [List.length_drop, List.length_take]; rfl)) ?_; (with_reducible refine (impl_EncodeDescriptor.calls kj16 t280 _ _ t281 t284 _ ?side1 ?side2 A48.out).mono ?_); (case side1 => repeat (first | exact (Kd.R_reads' HO283.out).2.2 | (with_reducible refine Kd.C_alloc ?_ _) | (with_reducible refine Kd.C_drewN ?_ _) | (with_reducible refine Kd.C_drew ?_))); (case side2 => exact (Kd.R_reads' HO283.out).2.1); rintro e w59 ⟨v285, rfl, ho0, hb⟩; refine ⟨_, rfl, ?_⟩; have n0_ := Aside0.mk (Kd.R_elder' (by (with_reducible repeat (first | apply Kd.R_alloc | apply Kd.R_drewN | apply Kd.R_drew)); exact HO_4.out) (Kd.R_base ho0) hb); have n1_ := Aside0.mk (Kd.R_elder' (by (with_reducible repeat (first | apply Kd.R_alloc | apply Kd.R_drewN | apply Kd.R_drew)); exact HO_6.out) (Kd.R_base ho0) hb); have n2_ := Aside0.mk (Kd.R_below (by (with_reducible repeat (first | apply Kd.R_alloc | apply Kd.R_drewN | apply Kd.R_drew)); exact HO_265001.out) hb); have n3_ := Aside0.mk (Kd.R_below (by (with_reducible repeat (first | apply Kd.R_alloc | apply Kd.R_drewN | apply Kd.R_drew)); exact HO283.out) hb); have n4_ := Aside0.mk (Kd.R_lower (Kd.R_new' (Kd.R_new' ho0 (Kd.R_lt (by (with_reducible repeat (first | apply Kd.R_alloc | apply Kd.R_drewN | apply Kd.R_drew)); exact HO_4.out))) (Kd.R_lt (by (with_reducible repeat (first | apply Kd.R_alloc | apply Kd.R_drewN | apply Kd.R_drew)); exact HO_6.out))) (below_size (by repeat (first | (with_reducible first | exact HB.out | apply below_alloc | apply pw_below_drewN | apply below_drew1 | refine below_set ?_ GE251.out | refine below_set ?_ GE264.out) | exact HB.out)))); have n5_ := Aside0.mk (blk_below (g := gb251) (o := .cells #[.int .i64 a0_0, .slice A0_1 l0_1.length c0_1] 51 (0, 0)) (by (with_reducible repeat (first | refine blk_drewN ?_ _ | refine blk_drew ?_ | refine blk_alloc ?_ _)); exact BK251.out) hb); have n6_ := Aside0.mk (blk_below (g := gb264) (o := .cells #[.int .i64 t260, .slice Ao30 t275.length co30] 56 (0, 0)) (by (with_reducible repeat (first | refine blk_drewN ?_ _ | refine blk_drew ?_ | refine blk_alloc ?_ _)); exact BK264.out) hb); have n7_ := Aside0.mk (below_step (by repeat (first | (with_reducible first | exact HB.out | apply below_alloc | apply pw_below_drewN | apply below_drew1 | refine below_set ?_ GE251.out | refine below_set ?_ GE264.out) | exact HB.out)) hb); clear HO_4; clear HO_6; clear HO_265001; clear HO283; clear BK251; clear BK264; clear HB; have HO_4 := n0_; have HO_6 := n1_; have HO_265001 := n2_; have HO283 := n3_; have HO286 := n4_; have BK251 := n5_; have BK264 := n6_; have HB := n7_; clear n0_ n1_ n2_ n3_ n4_ n5_ n6_ n7_; (try clear hb); (try clear hb2); (try clear hk); (try clear hi); (try clear ho0); obtain ⟨Ao60, co60, eo60⟩ := Kd.R_slice HO286.out; subst eo60) | ((with_reducible refine gate_callee (f := 14) rfl ?_); refine goesL_ (some 59) rfl rfl Try.func14 (by kernel_rfl) rfl #[.slice Ao60 t284.length co60, .slice Ao33 t257.length co33] rfl (by (try simp only [List.map_toArray, List.map_cons, List.map_nil]); first | done | rfl | (simp only [List.length_drop, List.length_take]; rfl)) ?_; (with_reducible refine (laws_eqByteS.calls kj16 _ _ t284 _ _ t257 true _ ?side1 ?side2 ?side3 ?side4 A49.out).mono ?_); (case side1 => repeat (first | exact (Kd.R_reads' HO286.out).2.2 | (with_reducible refine Kd.C_alloc ?_ _) | (with_reducible refine Kd.C_drewN ?_ _) | (with_reducible refine Kd.C_drew ?_))); (case side2 => exact (Kd.R_reads' HO286.out).2.1); (case side3 => repeat (first | exact (Kd.R_reads' HO_4.out).2.2 | (with_reducible refine Kd.C_alloc ?_ _) | (with_reducible refine Kd.C_drewN ?_ _) | (with_reducible refine Kd.C_drew ?_))); (case side4 => exact (Kd.R_reads' HO_4.out).2.1); rintro e w' ⟨rfl, ⟨nd, rfl⟩⟩; refine ⟨_, rfl, ?_⟩) | ((with_reducible refine gate_callee (f := 18) rfl ?_); refine goesL_ (some 63) rfl rfl Try.func18 (by kernel_rfl) rfl #[.slice Ao32 t278.length co32, .int .i64 1] rfl (by (try simp only [List.map_toArray, List.map_cons, List.map_nil]); first | done | (rw [show t278.length = t265.length from (Kd.R_reads' HO_6.out).1.symm] <;> rfl) | rfl | (simp only [List.length_drop, List.length_take]; rfl)) ?_; (with_reducible refine (laws_heldByteS.calls kj16 _ _ t278 1 t288 _ ?side1 ?side2 A51.out).mono ?_); (case side1 => repeat (first | exact (Kd.R_reads' HO_6.out).2.2 | (with_reducible refine Kd.C_alloc ?_ _) | (with_reducible refine Kd.C_drewN ?_ _) | (with_reducible refine Kd.C_drew ?_))); (case side2 => rw [show t278.length = t265.length from (Kd.R_reads' HO_6.out).1.symm]; exact (Kd.R_reads' HO_6.out).2.1); rintro e w' ⟨rfl, ⟨nd, rfl⟩⟩; refine ⟨_, rfl, ?_⟩))
                        go_ret
                        exact ⟨by first | rfl | (simp [errW_none, errW_some] <;> rfl) | (simp [*, errW_none, errW_some] <;> rfl), by repeat (first | (with_reducible first | exact HB.out | apply below_alloc | apply pw_below_drewN | apply below_drew1 | refine below_set ?_ GE251.out | refine below_set ?_ GE264.out) | exact HB.out)⟩
                      · rw [if_neg c53] at H
                        have c53b0 : (t288 == t277) = false := beq_eq_false_iff_ne.mpr c53
                        have c53b1 : (t288 != t277) = true := bne_iff_ne.mpr c53
                        exact absurd ((Option.some.inj H).trans hrt.out) (by simp)
                  · replace c50 := Bool.eq_false_iff.mpr c50
                    subst c50
                    have H1 : (some false) = some r := by rw [if_neg (show ¬ (false = true) by decide)] at H; exact H
                    clear H
                    have H := H1
                    clear H1
                    exact absurd ((Option.some.inj H).trans hrt.out) (by simp)
                · rw [if_neg c46] at H
                  have c46b0 : (t279 == t277) = false := beq_eq_false_iff_ne.mpr c46
                  have c46b1 : (t279 != t277) = true := bne_iff_ne.mpr c46
                  exact absurd ((Option.some.inj H).trans hrt.out) (by simp)
      · replace c15 := Bool.eq_false_iff.mpr c15
        subst c15
        have H1 : (some false) = some r := by rw [if_neg (show ¬ (false = true) by decide)] at H; exact H
        clear H
        have H := H1
        clear H1
        exact absurd ((Option.some.inj H).trans hrt.out) (by simp)
    · replace c12 := Bool.eq_false_iff.mpr c12
      subst c12
      have H1 : (some false) = some r := by rw [if_neg (show ¬ (false = true) by decide)] at H; exact H
      clear H
      have H := H1
      clear H1
      exact absurd ((Option.some.inj H).trans hrt.out) (by simp)

end Go.Proofs.Ytplefdkookhlhaa.PFnExactEncodeDescriptor
