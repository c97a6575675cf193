-- written by a program of this session (wip/src/print2.py)
import Derived.Test.YtplefdkookhlhaaPFnExactEncodeInodex0
import Derived.Test.YtplefdkookhlhaaPFnExactEncodeInodex1
import Derived.Test.YtplefdkookhlhaaPFnExactEncodeInodex3
import Derived.Test.YtplefdkookhlhaaPFnExactEncodeInodex4
import Derived.Test.YtplefdkookhlhaaPFnExactEncodeInodex6
import Derived.Test.YtplefdkookhlhaaPFnExactEncodeInodex7
namespace Go.Proofs.Ytplefdkookhlhaa.PFnExactEncodeInode
open Go.RowKit Go.Proofs.YtplefdkookhlhaaW.PrintWords Go.Proofs.YtplefdkookhlhaaW.PrintLast Go.Proofs.YtplefdkookhlhaaW.PrintMore
attribute [local go_sem] max2_int min2_int max_two min_two max_three min_three max_four min_four   -- for this text's walks alone
set_option linter.unusedVariables false
set_option linter.unusedSimpArgs false

/-! ### laws_FnExactEncodeInode: function 8 -/
def laws_FnExactEncodeInode.j0 : Nat → List Int → List Int → Bool → Int → Int → Int → List Int → Int → Option (Bool)
  | 0, _, _, _, _, _, _, _, _ => none
  | k + 1, x4, x6, x42, x229000, x229001, x229002, x229003, x229004 => if x42 = true then (some false) else ((laws_markByteS.f k x6 1).bind fun bt263 => ((laws_heldByteS.f k bt263.2 1).bind fun t265 => (if t265 < 0 then (some false) else (if t265 = bt263.1 then ((laws_toInode.f k x229000 x229001 x229002 x229003 x229004).bind fun bt266 => ((impl_EncodeInode.f k bt266.1 bt266.2.1 bt266.2.2.1 bt266.2.2.2.1 bt266.2.2.2.2).bind fun t273 => ((laws_eqByteS.f k t273 x4).bind fun t276 => (if t276 = true then ((laws_heldByteS.f k bt263.2 1).bind fun t277 => (if t277 < 0 then (some false) else (if t277 = bt263.1 then (some true) else (some false)))) else (some false))))) else (some false)))))
def laws_FnExactEncodeInode.f (k : Nat) (a0_0 : Int) (a0_1 : Int) (a0_2 : Int) (l0_3 : List Int) (a0_4 : Int) : Option (Bool) := (laws_szInode.f a0_0 a0_1 a0_2 l0_3 a0_4 1048576).bind fun t229 => (if t229 < 0 then (some true) else ((laws_toInode.f k a0_0 a0_1 a0_2 l0_3 a0_4).bind fun bt230 => ((spec_EncodeInode.f k bt230.1 bt230.2.1 bt230.2.2.1 bt230.2.2.2.1 bt230.2.2.2.2).bind fun t237 => ((laws_toInode.f k a0_0 a0_1 a0_2 l0_3 a0_4).bind fun bt240 => ((impl_EncodeInode.f k bt240.1 bt240.2.1 bt240.2.2.1 bt240.2.2.2.1 bt240.2.2.2.2).bind fun t248 => ((laws_eqByteS.f k t248 t237).bind fun t251 => (if t251 = true then ((laws_toInode.f k a0_0 a0_1 a0_2 l0_3 a0_4).bind fun bt252 => ((laws_eqInode.f k bt240.1 bt240.2.1 bt240.2.2.1 bt240.2.2.2.1 bt240.2.2.2.2 bt252.1 bt252.2.1 bt252.2.2.1 bt252.2.2.2.1 bt252.2.2.2.2).bind fun t259 => (if t259 = true then ((laws_markInode.f k bt240.1 bt240.2.1 bt240.2.2.1 bt240.2.2.2.1 bt240.2.2.2.2 1).bind fun bt260 => (if bt260.1 < 0 then (laws_FnExactEncodeInode.j0 k t237 t248 true a0_0 a0_1 a0_2 l0_3 a0_4) else ((laws_eqByteS.f k t248 t237).bind fun t262 => (laws_FnExactEncodeInode.j0 k t237 t248 (!t262) a0_0 a0_1 a0_2 l0_3 a0_4)))) else (some false)))) else (some false))))))))
theorem laws_FnExactEncodeInode.mono_l : ∀ k, (∀ y0 y1 y2 y3 y4 y5 y6 y7, LeO (laws_FnExactEncodeInode.j0 k y0 y1 y2 y3 y4 y5 y6 y7) (laws_FnExactEncodeInode.j0 (k + 1) y0 y1 y2 y3 y4 y5 y6 y7))
  | 0 => fun _ _ _ _ _ _ _ _ r h => by simp [laws_FnExactEncodeInode.j0] at h
  | k + 1 => by
    have ih0 := laws_FnExactEncodeInode.mono_l k
    · intro y0 y1 y2 y3 y4 y5 y6 y7
      unfold laws_FnExactEncodeInode.j0
      repeat' first
      | (with_reducible exact ih0 _ _ _ _ _ _ _ _)
      | (with_reducible exact impl_EncodeInode.mono _ _ _ _ _ _)
      | (with_reducible exact laws_eqByteS.mono _ _ _)
      | (with_reducible exact laws_eqInode.mono _ _ _ _ _ _ _ _ _ _ _)
      | (with_reducible exact laws_heldByteS.mono _ _ _)
      | (with_reducible exact laws_markByteS.mono _ _ _)
      | (with_reducible exact laws_markInode.mono _ _ _ _ _ _ _)
      | (with_reducible exact laws_toInode.mono _ _ _ _ _ _)
      | (with_reducible exact spec_EncodeInode.mono _ _ _ _ _ _)
      | (with_reducible exact LeO.refl _)
      | (with_reducible exact LeO.none _)
      | (with_reducible refine LeO.ite ?_ ?_)
      | (with_reducible refine LeO.bind ?_ (fun _ => ?_))
      | exact ih0 _ _ _ _ _ _ _ _
      | exact impl_EncodeInode.mono _ _ _ _ _ _
      | exact laws_eqByteS.mono _ _ _
      | exact laws_eqInode.mono _ _ _ _ _ _ _ _ _ _ _
      | exact laws_heldByteS.mono _ _ _
      | exact laws_markByteS.mono _ _ _
      | exact laws_markInode.mono _ _ _ _ _ _ _
      | exact laws_toInode.mono _ _ _ _ _ _
      | exact spec_EncodeInode.mono _ _ _ _ _ _
      | exact LeO.none _
      | refine LeO.ite ?_ ?_
      | refine LeO.bind ?_ (fun _ => ?_)
theorem laws_FnExactEncodeInode.mono : ∀ a0 a1 a2 a3 a4 k, LeO (laws_FnExactEncodeInode.f k a0 a1 a2 a3 a4) (laws_FnExactEncodeInode.f (k + 1) a0 a1 a2 a3 a4) := by
  intro a0 a1 a2 a3 a4 k
  have ih0 := laws_FnExactEncodeInode.mono_l k
  unfold laws_FnExactEncodeInode.f
  repeat' first
      | (with_reducible exact ih0 _ _ _ _ _ _ _ _)
      | (with_reducible exact impl_EncodeInode.mono _ _ _ _ _ _)
      | (with_reducible exact laws_eqByteS.mono _ _ _)
      | (with_reducible exact laws_eqInode.mono _ _ _ _ _ _ _ _ _ _ _)
      | (with_reducible exact laws_heldByteS.mono _ _ _)
      | (with_reducible exact laws_markByteS.mono _ _ _)
      | (with_reducible exact laws_markInode.mono _ _ _ _ _ _ _)
      | (with_reducible exact laws_toInode.mono _ _ _ _ _ _)
      | (with_reducible exact spec_EncodeInode.mono _ _ _ _ _ _)
      | (with_reducible exact LeO.refl _)
      | (with_reducible exact LeO.none _)
      | (with_reducible refine LeO.ite ?_ ?_)
      | (with_reducible refine LeO.bind ?_ (fun _ => ?_))
      | exact ih0 _ _ _ _ _ _ _ _
      | exact impl_EncodeInode.mono _ _ _ _ _ _
      | exact laws_eqByteS.mono _ _ _
      | exact laws_eqInode.mono _ _ _ _ _ _ _ _ _ _ _
      | exact laws_heldByteS.mono _ _ _
      | exact laws_markByteS.mono _ _ _
      | exact laws_markInode.mono _ _ _ _ _ _ _
      | exact laws_toInode.mono _ _ _ _ _ _
      | exact spec_EncodeInode.mono _ _ _ _ _ _
      | exact LeO.none _
      | refine LeO.ite ?_ ?_
      | refine LeO.bind ?_ (fun _ => ?_)
set_option maxHeartbeats 8000000 in
set_option maxRecDepth 100000 in
theorem laws_FnExactEncodeInode.calls (k : Nat) (a0_0 : Int) (a0_1 : Int) (a0_2 : Int) (A0_3 : Option Addr) (c0_3 : Nat) (l0_3 : List Int) (a0_4 : Int) (r : Bool) (w : World) (hr0_3 : Kd.C (Kd.int .i64) w A0_3 l0_3.length l0_3) (hc0_3 : l0_3.length ≤ c0_3) (h : laws_FnExactEncodeInode.f k a0_0 a0_1 a0_2 l0_3 a0_4 = some r) (hrt : Aside0 (r = true)) :
    Calls Try.prog 8 #[.agg #[.int .i64 a0_0, .int .i64 a0_1, .int .i64 a0_2, .slice A0_3 l0_3.length c0_3, .int .i64 a0_4]] w fun e w' => e = .returned (.bool r) ∧ Below w.heap.size w w' := by
  have hu62 := Try.underlying62
  have hu65 := Try.underlying65
  have HR0_3 := Aside0.mk hr0_3
  have HC0_3 := Aside0.mk hc0_3
  clear hr0_3 hc0_3
  have HB := Aside0.mk (Below.refl w.heap.size w)
  have H : ((laws_szInode.f a0_0 a0_1 a0_2 l0_3 a0_4 1048576).bind fun t229 => (if t229 < 0 then (some true) else ((laws_toInode.f k a0_0 a0_1 a0_2 l0_3 a0_4).bind fun bt230 => ((spec_EncodeInode.f k bt230.1 bt230.2.1 bt230.2.2.1 bt230.2.2.2.1 bt230.2.2.2.2).bind fun t237 => ((laws_toInode.f k a0_0 a0_1 a0_2 l0_3 a0_4).bind fun bt240 => ((impl_EncodeInode.f k bt240.1 bt240.2.1 bt240.2.2.1 bt240.2.2.2.1 bt240.2.2.2.2).bind fun t248 => ((laws_eqByteS.f k t248 t237).bind fun t251 => (if t251 = true then ((laws_toInode.f k a0_0 a0_1 a0_2 l0_3 a0_4).bind fun bt252 => ((laws_eqInode.f k bt240.1 bt240.2.1 bt240.2.2.1 bt240.2.2.2.1 bt240.2.2.2.2 bt252.1 bt252.2.1 bt252.2.2.1 bt252.2.2.2.1 bt252.2.2.2.2).bind fun t259 => (if t259 = true then ((laws_markInode.f k bt240.1 bt240.2.1 bt240.2.2.1 bt240.2.2.2.1 bt240.2.2.2.2 1).bind fun bt260 => (if bt260.1 < 0 then (laws_FnExactEncodeInode.j0 k t237 t248 true a0_0 a0_1 a0_2 l0_3 a0_4) else ((laws_eqByteS.f k t248 t237).bind fun t262 => (laws_FnExactEncodeInode.j0 k t237 t248 (!t262) a0_0 a0_1 a0_2 l0_3 a0_4)))) else (some false)))) else (some false))))))))) = some r := h
  clear h
  replace H := Option.bind_eq_some_iff.mp H
  obtain ⟨t229, A20, H⟩ := H
  replace H : (if t229 < 0 then (some true) else ((laws_toInode.f k a0_0 a0_1 a0_2 l0_3 a0_4).bind fun bt230 => ((spec_EncodeInode.f k bt230.1 bt230.2.1 bt230.2.2.1 bt230.2.2.2.1 bt230.2.2.2.2).bind fun t237 => ((laws_toInode.f k a0_0 a0_1 a0_2 l0_3 a0_4).bind fun bt240 => ((impl_EncodeInode.f k bt240.1 bt240.2.1 bt240.2.2.1 bt240.2.2.2.1 bt240.2.2.2.2).bind fun t248 => ((laws_eqByteS.f k t248 t237).bind fun t251 => (if t251 = true then ((laws_toInode.f k a0_0 a0_1 a0_2 l0_3 a0_4).bind fun bt252 => ((laws_eqInode.f k bt240.1 bt240.2.1 bt240.2.2.1 bt240.2.2.2.1 bt240.2.2.2.2 bt252.1 bt252.2.1 bt252.2.2.1 bt252.2.2.2.1 bt252.2.2.2.2).bind fun t259 => (if t259 = true then ((laws_markInode.f k bt240.1 bt240.2.1 bt240.2.2.1 bt240.2.2.2.1 bt240.2.2.2.2 1).bind fun bt260 => (if bt260.1 < 0 then (laws_FnExactEncodeInode.j0 k t237 t248 true a0_0 a0_1 a0_2 l0_3 a0_4) else ((laws_eqByteS.f k t248 t237).bind fun t262 => (laws_FnExactEncodeInode.j0 k t237 t248 (!t262) a0_0 a0_1 a0_2 l0_3 a0_4)))) else (some false)))) else (some false)))))))) = some r := H
  have A2 := Aside0.mk A20
  clear A20
  by_cases c3 : t229 < 0
  · rw [if_pos c3] at H
    have c3b0 : decide (t229 < 0) = true := decide_eq_true c3
    clear c3
    obtain rfl := Option.some.inj H
    go_enter Try.func8, Try.ntmps8
    go_wp2_with (first | ((with_reducible refine gate_dst (N := 1) rfl ?_); refine box_event ?hg (N := 1) ?hd (cs := #[.int .i64 a0_0, .int .i64 a0_1, .int .i64 a0_2, .slice A0_3 l0_3.length c0_3, .int .i64 a0_4]) (t := 62) ?hr ?_; (case hd => rfl); (case hg => rfl); (case hr => first | (go_simp; done) | (go_simp; rfl)); intro gb228 hg w4 hbox hb; have n0_ := Aside0.mk (below_step (by repeat (first | (with_reducible first | exact HB.out | apply below_alloc | apply pw_below_drewN | apply below_drew1) | exact HB.out)) hb); have n1_ := Aside0.mk (hbox); have n2_ := Aside0.mk ((by rw [hg]; exact (below_size (by repeat (first | (with_reducible first | exact HB.out | apply below_alloc | apply pw_below_drewN | apply below_drew1) | exact HB.out))) : w.heap.size ≤ gb228)); have n3_ := Aside0.mk ((by rw [hg]; exact (below_size (by repeat (first | (with_reducible first | exact HB.out | apply below_alloc | apply pw_below_drewN | apply below_drew1) | exact HB.out))) : w.heap.size ≤ gb228)); clear HB; have HB := n0_; have BK228 := n1_; have GW228 := n2_; have GE228 := n3_; clear n0_ n1_ n2_ n3_; clear hb hbox hg; have hcz5_0 : w4.cell? ⟨gb228, 0, none⟩ = some (.int .i64 a0_0) := (blk_cell BK228.out 0).trans rfl; have hcz5_1 : w4.cell? ⟨gb228, 1, none⟩ = some (.int .i64 a0_1) := (blk_cell BK228.out 1).trans rfl; have hcz5_2 : w4.cell? ⟨gb228, 2, none⟩ = some (.int .i64 a0_2) := (blk_cell BK228.out 2).trans rfl; have hcz5_3 : w4.cell? ⟨gb228, 3, none⟩ = some (.slice A0_3 l0_3.length c0_3) := (blk_cell BK228.out 3).trans rfl; have hcz5_4 : w4.cell? ⟨gb228, 4, none⟩ = some (.int .i64 a0_4) := (blk_cell BK228.out 4).trans rfl; have hfz5_0 := blk_frozen BK228.out 0; have hfz5_1 := blk_frozen BK228.out 1; have hfz5_2 := blk_frozen BK228.out 2; have hfz5_3 := blk_frozen BK228.out 3; have hfz5_4 := blk_frozen BK228.out 4) | ((with_reducible refine gate_callee (f := 38) rfl ?_); refine goesL_ (some 13) rfl rfl Try.func38 (by kernel_rfl) rfl #[.agg #[.int .i64 a0_0, .int .i64 a0_1, .int .i64 a0_2, .slice A0_3 l0_3.length c0_3, .int .i64 a0_4], .int .i64 1048576] rfl (by (try simp only [List.map_toArray, List.map_cons, List.map_nil]); first | done | rfl | (simp only [List.length_drop, List.length_take]; rfl)) ?_; (with_reducible refine (laws_szInode.calls a0_0 a0_1 a0_2 _ _ l0_3 a0_4 1048576 t229 _ ?side1 ?side2 A2.out).mono ?_); (case side1 => repeat (first | exact (Kd.C_below HR0_3.out HB.out) | (with_reducible refine Kd.C_alloc ?_ _) | (with_reducible refine Kd.C_drewN ?_ _) | (with_reducible refine Kd.C_drew ?_))); (case side2 => exact HC0_3.out); rintro e w6 ⟨rfl, hb⟩; refine ⟨_, rfl, ?_⟩; have n0_ := Aside0.mk (blk_below (g := gb228) (o := .cells #[.int .i64 a0_0, .int .i64 a0_1, .int .i64 a0_2, .slice A0_3 l0_3.length c0_3, .int .i64 a0_4] 62 (0, 0)) (by (with_reducible repeat (first | refine blk_drewN ?_ _ | refine blk_drew ?_ | refine blk_alloc ?_ _)); exact BK228.out) hb); have n1_ := Aside0.mk (below_step (by repeat (first | (with_reducible first | exact HB.out | apply below_alloc | apply pw_below_drewN | apply below_drew1 | refine below_set ?_ GE228.out) | exact HB.out)) hb); clear BK228; clear HB; have BK228 := n0_; have HB := n1_; clear n0_ n1_; (try clear hb); (try clear hb2); (try clear hk); (try clear hi)))
    go_ret
    exact ⟨by first | rfl | (simp [errW_none, errW_some] <;> rfl) | (simp [*, errW_none, errW_some] <;> rfl), by repeat (first | (with_reducible first | exact HB.out | apply below_alloc | apply pw_below_drewN | apply below_drew1 | refine below_set ?_ GE228.out) | exact HB.out)⟩
  · rw [if_neg c3] at H
    have c3b0 : decide (t229 < 0) = false := decide_eq_false c3
    clear c3
    replace H := Option.bind_eq_some_iff.mp H
    obtain ⟨⟨t230, t231, t232, t233, t236⟩, A70, H⟩ := H
    replace H : ((spec_EncodeInode.f k t230 t231 t232 t233 t236).bind fun t237 => ((laws_toInode.f k a0_0 a0_1 a0_2 l0_3 a0_4).bind fun bt240 => ((impl_EncodeInode.f k bt240.1 bt240.2.1 bt240.2.2.1 bt240.2.2.2.1 bt240.2.2.2.2).bind fun t248 => ((laws_eqByteS.f k t248 t237).bind fun t251 => (if t251 = true then ((laws_toInode.f k a0_0 a0_1 a0_2 l0_3 a0_4).bind fun bt252 => ((laws_eqInode.f k bt240.1 bt240.2.1 bt240.2.2.1 bt240.2.2.2.1 bt240.2.2.2.2 bt252.1 bt252.2.1 bt252.2.2.1 bt252.2.2.2.1 bt252.2.2.2.2).bind fun t259 => (if t259 = true then ((laws_markInode.f k bt240.1 bt240.2.1 bt240.2.2.1 bt240.2.2.2.1 bt240.2.2.2.2 1).bind fun bt260 => (if bt260.1 < 0 then (laws_FnExactEncodeInode.j0 k t237 t248 true a0_0 a0_1 a0_2 l0_3 a0_4) else ((laws_eqByteS.f k t248 t237).bind fun t262 => (laws_FnExactEncodeInode.j0 k t237 t248 (!t262) a0_0 a0_1 a0_2 l0_3 a0_4)))) else (some false)))) else (some false)))))) = some r := H
    have A7 := Aside0.mk A70
    clear A70
    replace H := Option.bind_eq_some_iff.mp H
    obtain ⟨t237, A80, H⟩ := H
    replace H : ((laws_toInode.f k a0_0 a0_1 a0_2 l0_3 a0_4).bind fun bt240 => ((impl_EncodeInode.f k bt240.1 bt240.2.1 bt240.2.2.1 bt240.2.2.2.1 bt240.2.2.2.2).bind fun t248 => ((laws_eqByteS.f k t248 t237).bind fun t251 => (if t251 = true then ((laws_toInode.f k a0_0 a0_1 a0_2 l0_3 a0_4).bind fun bt252 => ((laws_eqInode.f k bt240.1 bt240.2.1 bt240.2.2.1 bt240.2.2.2.1 bt240.2.2.2.2 bt252.1 bt252.2.1 bt252.2.2.1 bt252.2.2.2.1 bt252.2.2.2.2).bind fun t259 => (if t259 = true then ((laws_markInode.f k bt240.1 bt240.2.1 bt240.2.2.1 bt240.2.2.2.1 bt240.2.2.2.2 1).bind fun bt260 => (if bt260.1 < 0 then (laws_FnExactEncodeInode.j0 k t237 t248 true a0_0 a0_1 a0_2 l0_3 a0_4) else ((laws_eqByteS.f k t248 t237).bind fun t262 => (laws_FnExactEncodeInode.j0 k t237 t248 (!t262) a0_0 a0_1 a0_2 l0_3 a0_4)))) else (some false)))) else (some false))))) = some r := H
    have A8 := Aside0.mk A80
    clear A80
    replace H := Option.bind_eq_some_iff.mp H
    obtain ⟨⟨t240, t241, t242, t243, t246⟩, A90, H⟩ := H
    replace H : ((impl_EncodeInode.f k t240 t241 t242 t243 t246).bind fun t248 => ((laws_eqByteS.f k t248 t237).bind fun t251 => (if t251 = true then ((laws_toInode.f k a0_0 a0_1 a0_2 l0_3 a0_4).bind fun bt252 => ((laws_eqInode.f k t240 t241 t242 t243 t246 bt252.1 bt252.2.1 bt252.2.2.1 bt252.2.2.2.1 bt252.2.2.2.2).bind fun t259 => (if t259 = true then ((laws_markInode.f k t240 t241 t242 t243 t246 1).bind fun bt260 => (if bt260.1 < 0 then (laws_FnExactEncodeInode.j0 k t237 t248 true a0_0 a0_1 a0_2 l0_3 a0_4) else ((laws_eqByteS.f k t248 t237).bind fun t262 => (laws_FnExactEncodeInode.j0 k t237 t248 (!t262) a0_0 a0_1 a0_2 l0_3 a0_4)))) else (some false)))) else (some false)))) = some r := H
    have A9 := Aside0.mk A90
    clear A90
    replace H := Option.bind_eq_some_iff.mp H
    obtain ⟨t248, A100, H⟩ := H
    replace H : ((laws_eqByteS.f k t248 t237).bind fun t251 => (if t251 = true then ((laws_toInode.f k a0_0 a0_1 a0_2 l0_3 a0_4).bind fun bt252 => ((laws_eqInode.f k t240 t241 t242 t243 t246 bt252.1 bt252.2.1 bt252.2.2.1 bt252.2.2.2.1 bt252.2.2.2.2).bind fun t259 => (if t259 = true then ((laws_markInode.f k t240 t241 t242 t243 t246 1).bind fun bt260 => (if bt260.1 < 0 then (laws_FnExactEncodeInode.j0 k t237 t248 true a0_0 a0_1 a0_2 l0_3 a0_4) else ((laws_eqByteS.f k t248 t237).bind fun t262 => (laws_FnExactEncodeInode.j0 k t237 t248 (!t262) a0_0 a0_1 a0_2 l0_3 a0_4)))) else (some false)))) else (some false))) = some r := H
    have A10 := Aside0.mk A100
    clear A100
    replace H := Option.bind_eq_some_iff.mp H
    obtain ⟨t251, A110, H⟩ := H
    replace H : (if t251 = true then ((laws_toInode.f k a0_0 a0_1 a0_2 l0_3 a0_4).bind fun bt252 => ((laws_eqInode.f k t240 t241 t242 t243 t246 bt252.1 bt252.2.1 bt252.2.2.1 bt252.2.2.2.1 bt252.2.2.2.2).bind fun t259 => (if t259 = true then ((laws_markInode.f k t240 t241 t242 t243 t246 1).bind fun bt260 => (if bt260.1 < 0 then (laws_FnExactEncodeInode.j0 k t237 t248 true a0_0 a0_1 a0_2 l0_3 a0_4) else ((laws_eqByteS.f k t248 t237).bind fun t262 => (laws_FnExactEncodeInode.j0 k t237 t248 (!t262) a0_0 a0_1 a0_2 l0_3 a0_4)))) else (some false)))) else (some false)) = some r := H
    have A11 := Aside0.mk A110
    clear A110
    by_cases c12 : t251 = true
    · subst c12
      have H1 : ((laws_toInode.f k a0_0 a0_1 a0_2 l0_3 a0_4).bind fun bt252 => ((laws_eqInode.f k t240 t241 t242 t243 t246 bt252.1 bt252.2.1 bt252.2.2.1 bt252.2.2.2.1 bt252.2.2.2.2).bind fun t259 => (if t259 = true then ((laws_markInode.f k t240 t241 t242 t243 t246 1).bind fun bt260 => (if bt260.1 < 0 then (laws_FnExactEncodeInode.j0 k t237 t248 true a0_0 a0_1 a0_2 l0_3 a0_4) else ((laws_eqByteS.f k t248 t237).bind fun t262 => (laws_FnExactEncodeInode.j0 k t237 t248 (!t262) a0_0 a0_1 a0_2 l0_3 a0_4)))) else (some false)))) = some r := by rw [if_pos rfl] at H; exact H
      clear H
      have H := H1
      clear H1
      replace H := Option.bind_eq_some_iff.mp H
      obtain ⟨⟨t252, t253, t254, t255, t258⟩, A130, H⟩ := H
      replace H : ((laws_eqInode.f k t240 t241 t242 t243 t246 t252 t253 t254 t255 t258).bind fun t259 => (if t259 = true then ((laws_markInode.f k t240 t241 t242 t243 t246 1).bind fun bt260 => (if bt260.1 < 0 then (laws_FnExactEncodeInode.j0 k t237 t248 true a0_0 a0_1 a0_2 l0_3 a0_4) else ((laws_eqByteS.f k t248 t237).bind fun t262 => (laws_FnExactEncodeInode.j0 k t237 t248 (!t262) a0_0 a0_1 a0_2 l0_3 a0_4)))) else (some false))) = some r := H
      have A13 := Aside0.mk A130
      clear A130
      replace H := Option.bind_eq_some_iff.mp H
      obtain ⟨t259, A140, H⟩ := H
      replace H : (if t259 = true then ((laws_markInode.f k t240 t241 t242 t243 t246 1).bind fun bt260 => (if bt260.1 < 0 then (laws_FnExactEncodeInode.j0 k t237 t248 true a0_0 a0_1 a0_2 l0_3 a0_4) else ((laws_eqByteS.f k t248 t237).bind fun t262 => (laws_FnExactEncodeInode.j0 k t237 t248 (!t262) a0_0 a0_1 a0_2 l0_3 a0_4)))) else (some false)) = some r := H
      have A14 := Aside0.mk A140
      clear A140
      by_cases c15 : t259 = true
      · subst c15
        have H1 : ((laws_markInode.f k t240 t241 t242 t243 t246 1).bind fun bt260 => (if bt260.1 < 0 then (laws_FnExactEncodeInode.j0 k t237 t248 true a0_0 a0_1 a0_2 l0_3 a0_4) else ((laws_eqByteS.f k t248 t237).bind fun t262 => (laws_FnExactEncodeInode.j0 k t237 t248 (!t262) a0_0 a0_1 a0_2 l0_3 a0_4)))) = some r := by rw [if_pos rfl] at H; exact H
        clear H
        have H := H1
        clear H1
        replace H := Option.bind_eq_some_iff.mp H
        obtain ⟨⟨t260, t261⟩, A160, H⟩ := H
        replace H : (if t260 < 0 then (laws_FnExactEncodeInode.j0 k t237 t248 true a0_0 a0_1 a0_2 l0_3 a0_4) else ((laws_eqByteS.f k t248 t237).bind fun t262 => (laws_FnExactEncodeInode.j0 k t237 t248 (!t262) a0_0 a0_1 a0_2 l0_3 a0_4))) = some r := H
        have A16 := Aside0.mk A160
        clear A160
        have HC17 := Aside0.mk H
        clear H
        go_enter Try.func8, Try.ntmps8
        try go_wp2_with (first | ((with_reducible refine gate_dst (N := 1) rfl ?_); refine box_event ?hg (N := 1) ?hd (cs := #[.int .i64 a0_0, .int .i64 a0_1, .int .i64 a0_2, .slice A0_3 l0_3.length c0_3, .int .i64 a0_4]) (t := 62) ?hr ?_; (case hd => rfl); (case hg => rfl); (case hr => first | (go_simp; done) | (go_simp; rfl)); intro gb228 hg w18 hbox hb; have n0_ := Aside0.mk (below_step (by repeat (first | (with_reducible first | exact HB.out | apply below_alloc | apply pw_below_drewN | apply below_drew1) | exact HB.out)) hb); have n1_ := Aside0.mk (hbox); have n2_ := Aside0.mk ((by rw [hg]; exact (below_size (by repeat (first | (with_reducible first | exact HB.out | apply below_alloc | apply pw_below_drewN | apply below_drew1) | exact HB.out))) : w.heap.size ≤ gb228)); have n3_ := Aside0.mk ((by rw [hg]; exact (below_size (by repeat (first | (with_reducible first | exact HB.out | apply below_alloc | apply pw_below_drewN | apply below_drew1) | exact HB.out))) : w.heap.size ≤ gb228)); clear HB; have HB := n0_; have BK228 := n1_; have GW228 := n2_; have GE228 := n3_; clear n0_ n1_ n2_ n3_; clear hb hbox hg; have hcz19_0 : w18.cell? ⟨gb228, 0, none⟩ = some (.int .i64 a0_0) := (blk_cell BK228.out 0).trans rfl; have hcz19_1 : w18.cell? ⟨gb228, 1, none⟩ = some (.int .i64 a0_1) := (blk_cell BK228.out 1).trans rfl; have hcz19_2 : w18.cell? ⟨gb228, 2, none⟩ = some (.int .i64 a0_2) := (blk_cell BK228.out 2).trans rfl; have hcz19_3 : w18.cell? ⟨gb228, 3, none⟩ = some (.slice A0_3 l0_3.length c0_3) := (blk_cell BK228.out 3).trans rfl; have hcz19_4 : w18.cell? ⟨gb228, 4, none⟩ = some (.int .i64 a0_4) := (blk_cell BK228.out 4).trans rfl; have hfz19_0 := blk_frozen BK228.out 0; have hfz19_1 := blk_frozen BK228.out 1; have hfz19_2 := blk_frozen BK228.out 2; have hfz19_3 := blk_frozen BK228.out 3; have hfz19_4 := blk_frozen BK228.out 4) | ((with_reducible refine gate_callee (f := 38) rfl ?_); refine goesL_ (some 13) rfl rfl Try.func38 (by kernel_rfl) rfl #[.agg #[.int .i64 a0_0, .int .i64 a0_1, .int .i64 a0_2, .slice A0_3 l0_3.length c0_3, .int .i64 a0_4], .int .i64 1048576] rfl (by (try simp only [List.map_toArray, List.map_cons, List.map_nil]); first | done | rfl | (simp only [List.length_drop, List.length_take]; rfl)) ?_; (with_reducible refine (laws_szInode.calls a0_0 a0_1 a0_2 _ _ l0_3 a0_4 1048576 t229 _ ?side1 ?side2 A2.out).mono ?_); (case side1 => repeat (first | exact (Kd.C_below HR0_3.out HB.out) | (with_reducible refine Kd.C_alloc ?_ _) | (with_reducible refine Kd.C_drewN ?_ _) | (with_reducible refine Kd.C_drew ?_))); (case side2 => exact HC0_3.out); rintro e w20 ⟨rfl, hb⟩; refine ⟨_, rfl, ?_⟩; have n0_ := Aside0.mk (blk_below (g := gb228) (o := .cells #[.int .i64 a0_0, .int .i64 a0_1, .int .i64 a0_2, .slice A0_3 l0_3.length c0_3, .int .i64 a0_4] 62 (0, 0)) (by (with_reducible repeat (first | refine blk_drewN ?_ _ | refine blk_drew ?_ | refine blk_alloc ?_ _)); exact BK228.out) hb); have n1_ := Aside0.mk (below_step (by repeat (first | (with_reducible first | exact HB.out | apply below_alloc | apply pw_below_drewN | apply below_drew1 | refine below_set ?_ GE228.out) | exact HB.out)) hb); clear BK228; clear HB; have BK228 := n0_; have HB := n1_; clear n0_ n1_; (try clear hb); (try clear hb2); (try clear hk); (try clear hi); have hcz21_0 : w20.cell? ⟨gb228, 0, none⟩ = some (.int .i64 a0_0) := (blk_cell BK228.out 0).trans rfl; have hcz21_1 : w20.cell? ⟨gb228, 1, none⟩ = some (.int .i64 a0_1) := (blk_cell BK228.out 1).trans rfl; have hcz21_2 : w20.cell? ⟨gb228, 2, none⟩ = some (.int .i64 a0_2) := (blk_cell BK228.out 2).trans rfl; have hcz21_3 : w20.cell? ⟨gb228, 3, none⟩ = some (.slice A0_3 l0_3.length c0_3) := (blk_cell BK228.out 3).trans rfl; have hcz21_4 : w20.cell? ⟨gb228, 4, none⟩ = some (.int .i64 a0_4) := (blk_cell BK228.out 4).trans rfl; have hfz21_0 := blk_frozen BK228.out 0; have hfz21_1 := blk_frozen BK228.out 1; have hfz21_2 := blk_frozen BK228.out 2; have hfz21_3 := blk_frozen BK228.out 3; have hfz21_4 := blk_frozen BK228.out 4) | ((with_reducible refine gate_callee (f := 40) rfl ?_); refine goesL_ (some 17) rfl rfl Try.func40 (by kernel_rfl) rfl #[.agg #[.int .i64 a0_0, .int .i64 a0_1, .int .i64 a0_2, .slice A0_3 l0_3.length c0_3, .int .i64 a0_4]] rfl (by (try simp only [List.map_toArray, List.map_cons, List.map_nil]); first | done | rfl | (simp only [List.length_drop, List.length_take]; rfl)) ?_; (with_reducible refine (laws_toInode.calls k a0_0 a0_1 a0_2 _ _ l0_3 a0_4 t230 t231 t232 t233 t236 _ ?side1 ?side2 A7.out).mono ?_); (case side1 => repeat (first | exact (Kd.C_below HR0_3.out HB.out) | (with_reducible refine Kd.C_alloc ?_ _) | (with_reducible refine Kd.C_drewN ?_ _) | (with_reducible refine Kd.C_drew ?_))); (case side2 => exact HC0_3.out); rintro e w22 ⟨v234, rfl, ho0, hb⟩; refine ⟨_, rfl, ?_⟩; have n0_ := Aside0.mk (Kd.R_lower ho0 (below_size (by repeat (first | (with_reducible first | exact HB.out | apply below_alloc | apply pw_below_drewN | apply below_drew1 | refine below_set ?_ GE228.out) | exact HB.out)))); have n1_ := Aside0.mk (blk_below (g := gb228) (o := .cells #[.int .i64 a0_0, .int .i64 a0_1, .int .i64 a0_2, .slice A0_3 l0_3.length c0_3, .int .i64 a0_4] 62 (0, 0)) (by (with_reducible repeat (first | refine blk_drewN ?_ _ | refine blk_drew ?_ | refine blk_alloc ?_ _)); exact BK228.out) hb); have n2_ := Aside0.mk (below_step (by repeat (first | (with_reducible first | exact HB.out | apply below_alloc | apply pw_below_drewN | apply below_drew1 | refine below_set ?_ GE228.out) | exact HB.out)) hb); clear BK228; clear HB; have HO235 := n0_; have BK228 := n1_; have HB := n2_; clear n0_ n1_ n2_; (try clear hb); (try clear hb2); (try clear hk); (try clear hi); (try clear ho0); obtain ⟨Ao23, co23, eo23⟩ := Kd.R_slice HO235.out; subst eo23) | ((with_reducible refine gate_callee (f := 39) rfl ?_); refine goesL_ (some 18) rfl rfl Try.func39 (by kernel_rfl) rfl #[.agg #[.int .i64 t230, .int .i64 t231, .int .i64 t232, .slice Ao23 t233.length co23, .int .i64 t236]] rfl (by (try simp only [List.map_toArray, List.map_cons, List.map_nil]); first | done | rfl | (simp only [List.length_drop, List.length_take]; rfl)) ?_; (with_reducible refine (spec_EncodeInode.calls k t230 t231 t232 _ _ t233 t236 t237 _ ?side1 ?side2 A8.out).mono ?_); (case side1 => repeat (first | exact (Kd.R_reads' HO235.out).2.2 | (with_reducible refine Kd.C_alloc ?_ _) | (with_reducible refine Kd.C_drewN ?_ _) | (with_reducible refine Kd.C_drew ?_))); (case side2 => exact (Kd.R_reads' HO235.out).2.1); rintro e w24 ⟨v238, rfl, ho0, hb⟩; refine ⟨_, rfl, ?_⟩; have n0_ := Aside0.mk (Kd.R_below (by (with_reducible repeat (first | apply Kd.R_alloc | apply Kd.R_drewN | apply Kd.R_drew)); exact HO235.out) hb); have n1_ := Aside0.mk (Kd.R_lower ho0 (below_size (by repeat (first | (with_reducible first | exact HB.out | apply below_alloc | apply pw_below_drewN | apply below_drew1 | refine below_set ?_ GE228.out) | exact HB.out)))); have n2_ := Aside0.mk (blk_below (g := gb228) (o := .cells #[.int .i64 a0_0, .int .i64 a0_1, .int .i64 a0_2, .slice A0_3 l0_3.length c0_3, .int .i64 a0_4] 62 (0, 0)) (by (with_reducible repeat (first | refine blk_drewN ?_ _ | refine blk_drew ?_ | refine blk_alloc ?_ _)); exact BK228.out) hb); have n3_ := Aside0.mk (below_step (by repeat (first | (with_reducible first | exact HB.out | apply below_alloc | apply pw_below_drewN | apply below_drew1 | refine below_set ?_ GE228.out) | exact HB.out)) hb); clear HO235; clear BK228; clear HB; have HO235 := n0_; have HO239 := n1_; have BK228 := n2_; have HB := n3_; clear n0_ n1_ n2_ n3_; (try clear hb); (try clear hb2); (try clear hk); (try clear hi); (try clear ho0); have hcz25_0 : w24.cell? ⟨gb228, 0, none⟩ = some (.int .i64 a0_0) := (blk_cell BK228.out 0).trans rfl; have hcz25_1 : w24.cell? ⟨gb228, 1, none⟩ = some (.int .i64 a0_1) := (blk_cell BK228.out 1).trans rfl; have hcz25_2 : w24.cell? ⟨gb228, 2, none⟩ = some (.int .i64 a0_2) := (blk_cell BK228.out 2).trans rfl; have hcz25_3 : w24.cell? ⟨gb228, 3, none⟩ = some (.slice A0_3 l0_3.length c0_3) := (blk_cell BK228.out 3).trans rfl; have hcz25_4 : w24.cell? ⟨gb228, 4, none⟩ = some (.int .i64 a0_4) := (blk_cell BK228.out 4).trans rfl; have hfz25_0 := blk_frozen BK228.out 0; have hfz25_1 := blk_frozen BK228.out 1; have hfz25_2 := blk_frozen BK228.out 2; have hfz25_3 := blk_frozen BK228.out 3; have hfz25_4 := blk_frozen BK228.out 4) | ((with_reducible refine gate_callee (f := 40) rfl ?_); refine goesL_ (some 20) rfl rfl Try.func40 (by kernel_rfl) rfl #[.agg #[.int .i64 a0_0, .int .i64 a0_1, .int .i64 a0_2, .slice A0_3 l0_3.length c0_3, .int .i64 a0_4]] rfl (by (try simp only [List.map_toArray, List.map_cons, List.map_nil]); first | done | rfl | (simp only [List.length_drop, List.length_take]; rfl)) ?_; (with_reducible refine (laws_toInode.calls k a0_0 a0_1 a0_2 _ _ l0_3 a0_4 t240 t241 t242 t243 t246 _ ?side1 ?side2 A9.out).mono ?_); (case side1 => repeat (first | exact (Kd.C_below HR0_3.out HB.out) | (with_reducible refine Kd.C_alloc ?_ _) | (with_reducible refine Kd.C_drewN ?_ _) | (with_reducible refine Kd.C_drew ?_))); (case side2 => exact HC0_3.out); rintro e w26 ⟨v244, rfl, ho0, hb⟩; refine ⟨_, rfl, ?_⟩; have n0_ := Aside0.mk (Kd.R_elder' (by (with_reducible repeat (first | apply Kd.R_alloc | apply Kd.R_drewN | apply Kd.R_drew)); exact HO235.out) (Kd.R_base ho0) hb); have n1_ := Aside0.mk (Kd.R_below (by (with_reducible repeat (first | apply Kd.R_alloc | apply Kd.R_drewN | apply Kd.R_drew)); exact HO239.out) hb); have n2_ := Aside0.mk (Kd.R_lower (Kd.R_new' ho0 (Kd.R_lt (by (with_reducible repeat (first | apply Kd.R_alloc | apply Kd.R_drewN | apply Kd.R_drew)); exact HO235.out))) (below_size (by repeat (first | (with_reducible first | exact HB.out | apply below_alloc | apply pw_below_drewN | apply below_drew1 | refine below_set ?_ GE228.out) | exact HB.out)))); have n3_ := Aside0.mk (blk_below (g := gb228) (o := .cells #[.int .i64 a0_0, .int .i64 a0_1, .int .i64 a0_2, .slice A0_3 l0_3.length c0_3, .int .i64 a0_4] 62 (0, 0)) (by (with_reducible repeat (first | refine blk_drewN ?_ _ | refine blk_drew ?_ | refine blk_alloc ?_ _)); exact BK228.out) hb); have n4_ := Aside0.mk (below_step (by repeat (first | (with_reducible first | exact HB.out | apply below_alloc | apply pw_below_drewN | apply below_drew1 | refine below_set ?_ GE228.out) | exact HB.out)) hb); clear HO235; clear HO239; clear BK228; clear HB; have HO235 := n0_; have HO239 := n1_; have HO245 := n2_; have BK228 := n3_; have HB := n4_; clear n0_ n1_ n2_ n3_ n4_; (try clear hb); (try clear hb2); (try clear hk); (try clear hi); (try clear ho0)) | ((with_reducible refine gate_dst (N := 5) rfl ?_); refine box_event ?hg (N := 5) ?hd (cs := #[.int .i64 0, .int .i64 0, .int .i64 0, .slice none 0 0, .int .i64 0]) (t := 65) ?hr ?_; (case hd => rfl); (case hg => rfl); (case hr => first | (go_simp; done) | (go_simp; rfl)); intro gb247 hg w27 hbox hb; have n0_ := Aside0.mk (Kd.R_below (by (with_reducible repeat (first | apply Kd.R_alloc | apply Kd.R_drewN | apply Kd.R_drew)); exact HO235.out) hb); have n1_ := Aside0.mk (Kd.R_below (by (with_reducible repeat (first | apply Kd.R_alloc | apply Kd.R_drewN | apply Kd.R_drew)); exact HO239.out) hb); have n2_ := Aside0.mk (Kd.R_below (by (with_reducible repeat (first | apply Kd.R_alloc | apply Kd.R_drewN | apply Kd.R_drew)); exact HO245.out) hb); have n3_ := Aside0.mk (blk_below (g := gb228) (o := .cells #[.int .i64 a0_0, .int .i64 a0_1, .int .i64 a0_2, .slice A0_3 l0_3.length c0_3, .int .i64 a0_4] 62 (0, 0)) (by (with_reducible repeat (first | refine blk_drewN ?_ _ | refine blk_drew ?_ | refine blk_alloc ?_ _)); exact BK228.out) hb); have n4_ := Aside0.mk (below_step (by repeat (first | (with_reducible first | exact HB.out | apply below_alloc | apply pw_below_drewN | apply below_drew1 | refine below_set ?_ GE228.out) | exact HB.out)) hb); have n5_ := Aside0.mk (hbox); have n6_ := Aside0.mk ((by rw [hg]; exact (below_size (by repeat (first | (with_reducible first | exact HB.out | apply below_alloc | apply pw_below_drewN | apply below_drew1 | refine below_set ?_ GE228.out) | exact HB.out))) : w.heap.size ≤ gb247)); have n7_ := Aside0.mk ((by rw [hg]; exact (below_size (by repeat (first | (with_reducible first | exact HB.out | apply below_alloc | apply pw_below_drewN | apply below_drew1 | refine below_set ?_ GE228.out) | exact HB.out))) : w.heap.size ≤ gb247)); have n8_ := Aside0.mk ((by rw [hg]; exact Nat.ne_of_lt (blk_lt (g := gb228) (o := .cells #[.int .i64 a0_0, .int .i64 a0_1, .int .i64 a0_2, .slice A0_3 l0_3.length c0_3, .int .i64 a0_4] 62 (0, 0)) (by (with_reducible repeat (first | refine blk_drewN ?_ _ | refine blk_drew ?_ | refine blk_alloc ?_ _)); exact BK228.out)) : gb228 ≠ gb247)); have n9_ := Aside0.mk ((by rw [hg]; exact Nat.ne_of_gt (blk_lt (g := gb228) (o := .cells #[.int .i64 a0_0, .int .i64 a0_1, .int .i64 a0_2, .slice A0_3 l0_3.length c0_3, .int .i64 a0_4] 62 (0, 0)) (by (with_reducible repeat (first | refine blk_drewN ?_ _ | refine blk_drew ?_ | refine blk_alloc ?_ _)); exact BK228.out)) : gb247 ≠ gb228)); clear HO235; clear HO239; clear HO245; clear BK228; clear HB; have HO235 := n0_; have HO239 := n1_; have HO245 := n2_; have BK228 := n3_; have HB := n4_; have BK247 := n5_; have GW247 := n6_; have GE247 := n7_; have NB228_247 := n8_; have NB247_228 := n9_; clear n0_ n1_ n2_ n3_ n4_ n5_ n6_ n7_ n8_ n9_; clear hb hbox hg; have hnb28 := NB247_228.out; have hnc28 := NB228_247.out; have hcz29_0 : w27.cell? ⟨gb247, 0, none⟩ = some (.int .i64 0) := (blk_cell BK247.out 0).trans rfl; have hcz29_1 : w27.cell? ⟨gb247, 1, none⟩ = some (.int .i64 0) := (blk_cell BK247.out 1).trans rfl; have hcz29_2 : w27.cell? ⟨gb247, 2, none⟩ = some (.int .i64 0) := (blk_cell BK247.out 2).trans rfl; have hcz29_3 : w27.cell? ⟨gb247, 3, none⟩ = some (.slice none 0 0) := (blk_cell BK247.out 3).trans rfl; have hcz29_4 : w27.cell? ⟨gb247, 4, none⟩ = some (.int .i64 0) := (blk_cell BK247.out 4).trans rfl; have hfz29_0 := blk_frozen BK247.out 0; have hfz29_1 := blk_frozen BK247.out 1; have hfz29_2 := blk_frozen BK247.out 2; have hfz29_3 := blk_frozen BK247.out 3; have hfz29_4 := blk_frozen BK247.out 4; obtain ⟨Ao30, co30, eo30⟩ := Kd.R_slice HO245.out; subst eo30) | ((with_reducible refine gate_callee (f := 41) rfl ?_); refine goesL_ (some 22) rfl rfl Try.func41 (by kernel_rfl) rfl #[.agg #[.int .i64 t240, .int .i64 t241, .int .i64 t242, .slice Ao30 t243.length co30, .int .i64 t246]] rfl (by (try simp only [List.map_toArray, List.map_cons, List.map_nil]); first | done | rfl | (simp only [List.length_drop, List.length_take]; rfl)) ?_; (with_reducible refine (impl_EncodeInode.calls k t240 t241 t242 _ _ t243 t246 t248 _ ?side1 ?side2 A10.out).mono ?_); (case side1 => refine (Kd.R_reads' (e := 2) (base := w.heap.size) (ok := fun k_ => (True ∧ some k_ ≠ (.slice Ao23 t233.length co23 : Value).ownBlock)) (n := t243.length) (c := co30) ?_).2.2; exact (by (with_reducible repeat (first | apply Kd.R_alloc | apply Kd.R_drewN | apply Kd.R_drew)); exact (Kd.R_mono (Kd.R_far (p := ⟨gb247, 4, none⟩) (Kd.R_far (p := ⟨gb247, 3, none⟩) (Kd.R_far (p := ⟨gb247, 2, none⟩) (Kd.R_far (p := ⟨gb247, 1, none⟩) (Kd.R_far (p := ⟨gb247, 0, none⟩) (Kd.R_types HO245.out BK247.out (by decide)) (fun _ hk => hk.2) (.int .i64 t240)) (fun _ hk => hk.2) (.int .i64 t241)) (fun _ hk => hk.2) (.int .i64 t242)) (fun _ hk => hk.2) (.slice Ao30 t243.length co30)) (fun _ hk => hk.2) (.int .i64 t246)) (fun _ h_ => h_.1)))); (case side2 => exact (Kd.R_reads' HO245.out).2.1); rintro e w31 ⟨v249, rfl, ho0, hb⟩; refine ⟨_, rfl, ?_⟩; have n0_ := Aside0.mk (Kd.R_below (by (with_reducible repeat (first | apply Kd.R_alloc | apply Kd.R_drewN | apply Kd.R_drew)); exact (Kd.R_mono (Kd.R_far (p := ⟨gb247, 4, none⟩) (Kd.R_far (p := ⟨gb247, 3, none⟩) (Kd.R_far (p := ⟨gb247, 2, none⟩) (Kd.R_far (p := ⟨gb247, 1, none⟩) (Kd.R_far (p := ⟨gb247, 0, none⟩) (Kd.R_types HO235.out BK247.out (by decide)) (fun _ hk => hk.2) (.int .i64 t240)) (fun _ hk => hk.2) (.int .i64 t241)) (fun _ hk => hk.2) (.int .i64 t242)) (fun _ hk => hk.2) (.slice Ao30 t243.length co30)) (fun _ hk => hk.2) (.int .i64 t246)) (fun _ h_ => h_.1))) hb); have n1_ := Aside0.mk (Kd.R_elder' (by (with_reducible repeat (first | apply Kd.R_alloc | apply Kd.R_drewN | apply Kd.R_drew)); exact (Kd.R_mono (Kd.R_far (p := ⟨gb247, 4, none⟩) (Kd.R_far (p := ⟨gb247, 3, none⟩) (Kd.R_far (p := ⟨gb247, 2, none⟩) (Kd.R_far (p := ⟨gb247, 1, none⟩) (Kd.R_far (p := ⟨gb247, 0, none⟩) (Kd.R_types HO239.out BK247.out (by decide)) (fun _ hk => hk.2) (.int .i64 t240)) (fun _ hk => hk.2) (.int .i64 t241)) (fun _ hk => hk.2) (.int .i64 t242)) (fun _ hk => hk.2) (.slice Ao30 t243.length co30)) (fun _ hk => hk.2) (.int .i64 t246)) (fun _ h_ => h_.1))) (Kd.R_base ho0) hb); have n2_ := Aside0.mk (Kd.R_below (by (with_reducible repeat (first | apply Kd.R_alloc | apply Kd.R_drewN | apply Kd.R_drew)); exact (Kd.R_mono (Kd.R_far (p := ⟨gb247, 4, none⟩) (Kd.R_far (p := ⟨gb247, 3, none⟩) (Kd.R_far (p := ⟨gb247, 2, none⟩) (Kd.R_far (p := ⟨gb247, 1, none⟩) (Kd.R_far (p := ⟨gb247, 0, none⟩) (Kd.R_types HO245.out BK247.out (by decide)) (fun _ hk => hk.2) (.int .i64 t240)) (fun _ hk => hk.2) (.int .i64 t241)) (fun _ hk => hk.2) (.int .i64 t242)) (fun _ hk => hk.2) (.slice Ao30 t243.length co30)) (fun _ hk => hk.2) (.int .i64 t246)) (fun _ h_ => h_.1))) hb); have n3_ := Aside0.mk (Kd.R_lower (Kd.R_new' ho0 (Kd.R_lt (by (with_reducible repeat (first | apply Kd.R_alloc | apply Kd.R_drewN | apply Kd.R_drew)); exact (Kd.R_mono (Kd.R_far (p := ⟨gb247, 4, none⟩) (Kd.R_far (p := ⟨gb247, 3, none⟩) (Kd.R_far (p := ⟨gb247, 2, none⟩) (Kd.R_far (p := ⟨gb247, 1, none⟩) (Kd.R_far (p := ⟨gb247, 0, none⟩) (Kd.R_types HO239.out BK247.out (by decide)) (fun _ hk => hk.2) (.int .i64 t240)) (fun _ hk => hk.2) (.int .i64 t241)) (fun _ hk => hk.2) (.int .i64 t242)) (fun _ hk => hk.2) (.slice Ao30 t243.length co30)) (fun _ hk => hk.2) (.int .i64 t246)) (fun _ h_ => h_.1))))) (below_size (by repeat (first | (with_reducible first | exact HB.out | apply below_alloc | apply pw_below_drewN | apply below_drew1 | refine below_set ?_ GE228.out | refine below_set ?_ GE247.out) | exact HB.out)))); have n4_ := Aside0.mk (blk_below (g := gb228) (o := .cells #[.int .i64 a0_0, .int .i64 a0_1, .int .i64 a0_2, .slice A0_3 l0_3.length c0_3, .int .i64 a0_4] 62 (0, 0)) (by (with_reducible repeat (first | refine blk_drewN ?_ _ | refine blk_drew ?_ | refine blk_alloc ?_ _)); refine blk_far ?_ NB228_247.out _; (with_reducible repeat (first | refine blk_drewN ?_ _ | refine blk_drew ?_ | refine blk_alloc ?_ _)); refine blk_far ?_ NB228_247.out _; (with_reducible repeat (first | refine blk_drewN ?_ _ | refine blk_drew ?_ | refine blk_alloc ?_ _)); refine blk_far ?_ NB228_247.out _; (with_reducible repeat (first | refine blk_drewN ?_ _ | refine blk_drew ?_ | refine blk_alloc ?_ _)); refine blk_far ?_ NB228_247.out _; (with_reducible repeat (first | refine blk_drewN ?_ _ | refine blk_drew ?_ | refine blk_alloc ?_ _)); refine blk_far ?_ NB228_247.out _; (with_reducible repeat (first | refine blk_drewN ?_ _ | refine blk_drew ?_ | refine blk_alloc ?_ _)); exact BK228.out) hb); have n5_ := Aside0.mk (blk_below (g := gb247) (o := .cells #[.int .i64 t240, .int .i64 t241, .int .i64 t242, .slice Ao30 t243.length co30, .int .i64 t246] 65 (0, 0)) (by (with_reducible repeat (first | refine blk_drewN ?_ _ | refine blk_drew ?_ | refine blk_alloc ?_ _)); refine blk_put (cs := #[.int .i64 t240, .int .i64 t241, .int .i64 t242, .slice Ao30 t243.length co30, .int .i64 0]) ?_ 4 _ rfl; (with_reducible repeat (first | refine blk_drewN ?_ _ | refine blk_drew ?_ | refine blk_alloc ?_ _)); refine blk_put (cs := #[.int .i64 t240, .int .i64 t241, .int .i64 t242, .slice none 0 0, .int .i64 0]) ?_ 3 _ rfl; (with_reducible repeat (first | refine blk_drewN ?_ _ | refine blk_drew ?_ | refine blk_alloc ?_ _)); refine blk_put (cs := #[.int .i64 t240, .int .i64 t241, .int .i64 0, .slice none 0 0, .int .i64 0]) ?_ 2 _ rfl; (with_reducible repeat (first | refine blk_drewN ?_ _ | refine blk_drew ?_ | refine blk_alloc ?_ _)); refine blk_put (cs := #[.int .i64 t240, .int .i64 0, .int .i64 0, .slice none 0 0, .int .i64 0]) ?_ 1 _ rfl; (with_reducible repeat (first | refine blk_drewN ?_ _ | refine blk_drew ?_ | refine blk_alloc ?_ _)); refine blk_put (cs := #[.int .i64 0, .int .i64 0, .int .i64 0, .slice none 0 0, .int .i64 0]) ?_ 0 _ rfl; (with_reducible repeat (first | refine blk_drewN ?_ _ | refine blk_drew ?_ | refine blk_alloc ?_ _)); exact BK247.out) hb); have n6_ := Aside0.mk (below_step (by repeat (first | (with_reducible first | exact HB.out | apply below_alloc | apply pw_below_drewN | apply below_drew1 | refine below_set ?_ GE228.out | refine below_set ?_ GE247.out) | exact HB.out)) hb); clear HO235; clear HO239; clear HO245; clear BK228; clear BK247; clear HB; have HO235 := n0_; have HO239 := n1_; have HO245 := n2_; have HO250 := n3_; have BK228 := n4_; have BK247 := n5_; have HB := n6_; clear n0_ n1_ n2_ n3_ n4_ n5_ n6_; (try clear hb); (try clear hb2); (try clear hk); (try clear hi); (try clear ho0); obtain ⟨Ao32, co32, eo32⟩ := Kd.R_slice HO250.out; subst eo32; obtain ⟨Ao33, co33, eo33⟩ := Kd.R_slice HO239.out; subst eo33) | ((with_reducible refine gate_callee (f := 14) rfl ?_); refine goesL_ (some 25) rfl rfl Try.func14 (by kernel_rfl) rfl #[.slice Ao32 t248.length co32, .slice Ao33 t237.length co33] rfl (by (try simp only [List.map_toArray, List.map_cons, List.map_nil]); first | done | rfl | (simp only [List.length_drop, List.length_take]; rfl)) ?_; (with_reducible refine (laws_eqByteS.calls k _ _ t248 _ _ t237 true _ ?side1 ?side2 ?side3 ?side4 A11.out).mono ?_); (case side1 => repeat (first | exact (Kd.R_reads' HO250.out).2.2 | (with_reducible refine Kd.C_alloc ?_ _) | (with_reducible refine Kd.C_drewN ?_ _) | (with_reducible refine Kd.C_drew ?_))); (case side2 => exact (Kd.R_reads' HO250.out).2.1); (case side3 => repeat (first | exact (Kd.R_reads' HO239.out).2.2 | (with_reducible refine Kd.C_alloc ?_ _) | (with_reducible refine Kd.C_drewN ?_ _) | (with_reducible refine Kd.C_drew ?_))); (case side4 => exact (Kd.R_reads' HO239.out).2.1); rintro e w' ⟨rfl, ⟨nd, rfl⟩⟩; refine ⟨_, rfl, ?_⟩))
        (try (rw [drewN_self w31]; generalize hq_ : World.drewN w31 _ = w31; have n0_ : Aside0 (Kd.R (Kd.int .i64) 2 w31 w.heap.size (fun k_ => some k_ ≠ (.slice Ao30 t243.length co30 : Value).ownBlock) (.slice Ao23 t233.length co23) t233) := ⟨by rw [← hq_]; exact (by (with_reducible repeat (first | apply Kd.R_alloc | apply Kd.R_drewN | apply Kd.R_drew)); exact Kd.R_mono HO235.out (fun _ hk => hk.2))⟩; have n1_ : Aside0 (Kd.R (Kd.int .u8) 5 w31 w.heap.size (fun k_ => some k_ ≠ (.slice Ao32 t248.length co32 : Value).ownBlock) (.slice Ao33 t237.length co33) t237) := ⟨by rw [← hq_]; exact (by (with_reducible repeat (first | apply Kd.R_alloc | apply Kd.R_drewN | apply Kd.R_drew)); exact Kd.R_mono HO239.out (fun _ hk => hk.2))⟩; have n2_ : Aside0 (Kd.R (Kd.int .i64) 2 w31 w.heap.size (fun k_ => some k_ ≠ (.slice Ao23 t233.length co23 : Value).ownBlock) (.slice Ao30 t243.length co30) t243) := ⟨by rw [← hq_]; exact (by (with_reducible repeat (first | apply Kd.R_alloc | apply Kd.R_drewN | apply Kd.R_drew)); exact Kd.R_mono HO245.out (fun _ hk => hk.2))⟩; have n3_ : Aside0 (Kd.R (Kd.int .u8) 5 w31 w.heap.size (fun k_ => some k_ ≠ (.slice Ao33 t237.length co33 : Value).ownBlock) (.slice Ao32 t248.length co32) t248) := ⟨by rw [← hq_]; exact (by (with_reducible repeat (first | apply Kd.R_alloc | apply Kd.R_drewN | apply Kd.R_drew)); exact Kd.R_mono HO250.out (fun _ hk => hk.2))⟩; have n4_ : Aside0 (w31.heap[gb228]? = some (.cells #[.int .i64 a0_0, .int .i64 a0_1, .int .i64 a0_2, .slice A0_3 l0_3.length c0_3, .int .i64 a0_4] 62 (0, 0))) := ⟨by rw [← hq_]; exact (by (with_reducible repeat (first | refine blk_drewN ?_ _ | refine blk_drew ?_ | refine blk_alloc ?_ _)); exact BK228.out)⟩; have n5_ : Aside0 (w31.heap[gb247]? = some (.cells #[.int .i64 t240, .int .i64 t241, .int .i64 t242, .slice Ao30 t243.length co30, .int .i64 t246] 65 (0, 0))) := ⟨by rw [← hq_]; exact (by (with_reducible repeat (first | refine blk_drewN ?_ _ | refine blk_drew ?_ | refine blk_alloc ?_ _)); exact BK247.out)⟩; have n6_ : Aside0 (Below w.heap.size w w31) := ⟨by rw [← hq_]; exact (by repeat (first | (with_reducible first | exact HB.out | apply below_alloc | apply pw_below_drewN | apply below_drew1 | refine below_set ?_ GE228.out | refine below_set ?_ GE247.out) | exact HB.out))⟩; clear HO235 HO239 HO245 HO250 BK228 BK247 HB hq_; have HO235 := n0_; have HO239 := n1_; have HO245 := n2_; have HO250 := n3_; have BK228 := n4_; have BK247 := n5_; have HB := n6_; clear n0_ n1_ n2_ n3_ n4_ n5_ n6_))
        have n0_ := Aside0.mk (Kd.R_drew HO235.out)
        have n1_ := Aside0.mk (Kd.R_drew HO239.out)
        have n2_ := Aside0.mk (Kd.R_drew HO245.out)
        have n3_ := Aside0.mk (Kd.R_drew HO250.out)
        have n4_ := Aside0.mk (blk_drew BK228.out)
        have n5_ := Aside0.mk (blk_drew BK247.out)
        have n6_ := Aside0.mk (below_drew1 HB.out)
        clear HO235
        clear HO239
        clear HO245
        clear HO250
        clear BK228
        clear BK247
        clear HB
        have HO235 := n0_
        have HO239 := n1_
        have HO245 := n2_
        have HO250 := n3_
        have BK228 := n4_
        have BK247 := n5_
        have HB := n6_
        clear n0_ n1_ n2_ n3_ n4_ n5_ n6_
        refine start_ (n := 5) (S := fun w' => w'.cell? ⟨gb247, 0, none⟩ = some (.int .i64 t240) ∧ w'.cell? ⟨gb247, 1, none⟩ = some (.int .i64 t241) ∧ w'.cell? ⟨gb247, 2, none⟩ = some (.int .i64 t242) ∧ w'.cell? ⟨gb247, 3, none⟩ = some (.slice Ao30 t243.length co30) ∧ w'.cell? ⟨gb247, 4, none⟩ = some (.int .i64 t246) ∧ w'.cell? ⟨gb228, 0, none⟩ = some (.int .i64 a0_0) ∧ w'.cell? ⟨gb228, 1, none⟩ = some (.int .i64 a0_1) ∧ w'.cell? ⟨gb228, 2, none⟩ = some (.int .i64 a0_2) ∧ w'.cell? ⟨gb228, 3, none⟩ = some (.slice A0_3 l0_3.length c0_3) ∧ w'.cell? ⟨gb228, 4, none⟩ = some (.int .i64 a0_4)) (ds := []) #[false, false, false, false, false] (by kernel_rfl) rfl rfl ⟨(blk_cell BK247.out 0).trans rfl, (blk_cell BK247.out 1).trans rfl, (blk_cell BK247.out 2).trans rfl, (blk_cell BK247.out 3).trans rfl, (blk_cell BK247.out 4).trans rfl, (blk_cell BK228.out 0).trans rfl, (blk_cell BK228.out 1).trans rfl, (blk_cell BK228.out 2).trans rfl, (blk_cell BK228.out 3).trans rfl, (blk_cell BK228.out 4).trans rfl⟩ (fun hHeld => ?_)
        generalize w31.drew = w34 at HO235 HO239 HO245 HO250 BK228 BK247 HB hHeld ⊢
        refine take_ (i := 0) (N := some 27) (v := ?_) (a' := ?_) #[true, false, false, false, false] rfl rfl (by kernel_rfl) (fun _ _ _ h => h) (Or.inl ⟨by rfl, ?_⟩) hHeld ?_ ?_
        rotate_left
        · rintro w' ⟨s0, s1, s2, s3, s4, s5, s6, s7, s8, s9⟩
          go_simp
          with_reducible rfl
        rotate_left
        · simp only [Act.put, List.setIfInBounds_toArray, List.set_cons_zero, List.set_cons_succ, i64_w, i32_w]
          rfl
        refine take_ (i := 1) (N := some 28) (v := ?_) (a' := ?_) #[true, true, false, false, false] rfl rfl (by kernel_rfl) (fun _ _ _ h => h) (Or.inl ⟨by rfl, ?_⟩) hHeld ?_ ?_
        rotate_left
        · rintro w' ⟨s0, s1, s2, s3, s4, s5, s6, s7, s8, s9⟩
          go_simp
          with_reducible rfl
        rotate_left
        · simp only [Act.put, List.setIfInBounds_toArray, List.set_cons_zero, List.set_cons_succ, i64_w, i32_w]
          rfl
        refine one_ (i := 2) (N := some 29) #[true, true, true, false, false] rfl rfl (by kernel_rfl) (by decide) (fun K hK => ?_)
        refine goes_ Try.func40 (by kernel_rfl) rfl #[.agg #[.int .i64 a0_0, .int .i64 a0_1, .int .i64 a0_2, .slice A0_3 l0_3.length c0_3, .int .i64 a0_4]] (by rfl) rfl rfl (by (try simp only [List.map_toArray, List.map_cons, List.map_nil]); first | done | rfl | (simp only [List.length_drop, List.length_take]; rfl)) ?_
        with_reducible refine (laws_toInode.calls k a0_0 a0_1 a0_2 _ _ l0_3 a0_4 t252 t253 t254 t255 t258 _ ?side1 ?side2 A13.out).mono ?_
        (case side1 => repeat (first | exact (Kd.C_below HR0_3.out HB.out) | (with_reducible refine Kd.C_alloc ?_ _) | (with_reducible refine Kd.C_drewN ?_ _) | (with_reducible refine Kd.C_drew ?_)))
        (case side2 => exact HC0_3.out)
        rintro e w35 ⟨v256, rfl, ho0, hb⟩
        refine ⟨_, rfl, ?_⟩
        have n0_ := Aside0.mk (Kd.R_elder' (by (with_reducible repeat (first | apply Kd.R_alloc | apply Kd.R_drewN | apply Kd.R_drew)); exact HO235.out) (Kd.R_base ho0) hb)
        have n1_ := Aside0.mk (Kd.R_below (by (with_reducible repeat (first | apply Kd.R_alloc | apply Kd.R_drewN | apply Kd.R_drew)); exact HO239.out) hb)
        have n2_ := Aside0.mk (Kd.R_elder' (by (with_reducible repeat (first | apply Kd.R_alloc | apply Kd.R_drewN | apply Kd.R_drew)); exact HO245.out) (Kd.R_base ho0) hb)
        have n3_ := Aside0.mk (Kd.R_below (by (with_reducible repeat (first | apply Kd.R_alloc | apply Kd.R_drewN | apply Kd.R_drew)); exact HO250.out) hb)
        have n4_ := Aside0.mk (Kd.R_lower (Kd.R_new' (Kd.R_new' ho0 (Kd.R_lt (by (with_reducible repeat (first | apply Kd.R_alloc | apply Kd.R_drewN | apply Kd.R_drew)); exact HO235.out))) (Kd.R_lt (by (with_reducible repeat (first | apply Kd.R_alloc | apply Kd.R_drewN | apply Kd.R_drew)); exact HO245.out))) (below_size (by repeat (first | (with_reducible first | exact HB.out | apply below_alloc | apply pw_below_drewN | apply below_drew1 | refine below_set ?_ GE228.out | refine below_set ?_ GE247.out) | exact HB.out))))
        have n5_ := Aside0.mk (blk_below (g := gb228) (o := .cells #[.int .i64 a0_0, .int .i64 a0_1, .int .i64 a0_2, .slice A0_3 l0_3.length c0_3, .int .i64 a0_4] 62 (0, 0)) (by (with_reducible repeat (first | refine blk_drewN ?_ _ | refine blk_drew ?_ | refine blk_alloc ?_ _)); exact BK228.out) hb)
        have n6_ := Aside0.mk (blk_below (g := gb247) (o := .cells #[.int .i64 t240, .int .i64 t241, .int .i64 t242, .slice Ao30 t243.length co30, .int .i64 t246] 65 (0, 0)) (by (with_reducible repeat (first | refine blk_drewN ?_ _ | refine blk_drew ?_ | refine blk_alloc ?_ _)); exact BK247.out) hb)
        have n7_ := Aside0.mk (below_step (by repeat (first | (with_reducible first | exact HB.out | apply below_alloc | apply pw_below_drewN | apply below_drew1 | refine below_set ?_ GE228.out | refine below_set ?_ GE247.out) | exact HB.out)) hb)
        clear HO235
        clear HO239
        clear HO245
        clear HO250
        clear BK228
        clear BK247
        clear HB
        have HO235 := n0_
        have HO239 := n1_
        have HO245 := n2_
        have HO250 := n3_
        have HO257 := n4_
        have BK228 := n5_
        have BK247 := n6_
        have HB := n7_
        clear n0_ n1_ n2_ n3_ n4_ n5_ n6_ n7_
        (try clear hb)
        (try clear hb2)
        (try clear hk)
        (try clear hi)
        (try clear ho0)
        obtain ⟨Ao36, co36, eo36⟩ := Kd.R_slice HO257.out
        (first | subst eo36 | (injection eo36 with f1_ f2_ f3_; have f4_ := f1_.symm; have f5_ := f3_.symm; clear f1_ f2_ f3_; subst f4_; subst f5_))
        refine hK.out _ _ ⟨(blk_cell BK247.out 0).trans rfl, (blk_cell BK247.out 1).trans rfl, (blk_cell BK247.out 2).trans rfl, (blk_cell BK247.out 3).trans rfl, (blk_cell BK247.out 4).trans rfl, (blk_cell BK228.out 0).trans rfl, (blk_cell BK228.out 1).trans rfl, (blk_cell BK228.out 2).trans rfl, (blk_cell BK228.out 3).trans rfl, (blk_cell BK228.out 4).trans rfl⟩ (fun hHeld => ?_)
        clear hK K
        refine norm_ (a' := ?_) ?_ ?_
        rotate_left
        · show Act.put _ (some 29) _ = _
          simp only [Act.put, List.setIfInBounds_toArray, List.set_cons_zero, List.set_cons_succ, i64_w, i32_w]
          rfl
        refine one_ (i := 3) (N := some 30) #[true, true, true, true, false] rfl rfl (by kernel_rfl) (by decide) (fun K hK => ?_)
        refine goes_ Try.func42 (by kernel_rfl) rfl #[.agg #[.int .i64 t240, .int .i64 t241, .int .i64 t242, .slice Ao30 t243.length co30, .int .i64 t246], .agg #[.int .i64 t252, .int .i64 t253, .int .i64 t254, .slice Ao36 t255.length co36, .int .i64 t258]] (by rfl) rfl rfl (by (try simp only [List.map_toArray, List.map_cons, List.map_nil]); first | done | rfl | (simp only [List.length_drop, List.length_take]; rfl)) ?_
        with_reducible refine (laws_eqInode.calls k t240 t241 t242 _ _ t243 t246 t252 t253 t254 _ _ t255 t258 true _ ?side1 ?side2 ?side3 ?side4 A14.out).mono ?_
        (case side1 => repeat (first | exact (Kd.R_reads' HO245.out).2.2 | (with_reducible refine Kd.C_alloc ?_ _) | (with_reducible refine Kd.C_drewN ?_ _) | (with_reducible refine Kd.C_drew ?_)))
        (case side2 => exact (Kd.R_reads' HO245.out).2.1)
        (case side3 => repeat (first | exact (Kd.R_reads' HO257.out).2.2 | (with_reducible refine Kd.C_alloc ?_ _) | (with_reducible refine Kd.C_drewN ?_ _) | (with_reducible refine Kd.C_drew ?_)))
        (case side4 => exact (Kd.R_reads' HO257.out).2.1)
        rintro e w37 ⟨rfl, hb⟩
        refine ⟨_, rfl, ?_⟩
        have n0_ := Aside0.mk (Kd.R_below (by (with_reducible repeat (first | apply Kd.R_alloc | apply Kd.R_drewN | apply Kd.R_drew)); exact HO235.out) hb)
        have n1_ := Aside0.mk (Kd.R_below (by (with_reducible repeat (first | apply Kd.R_alloc | apply Kd.R_drewN | apply Kd.R_drew)); exact HO239.out) hb)
        have n2_ := Aside0.mk (Kd.R_below (by (with_reducible repeat (first | apply Kd.R_alloc | apply Kd.R_drewN | apply Kd.R_drew)); exact HO245.out) hb)
        have n3_ := Aside0.mk (Kd.R_below (by (with_reducible repeat (first | apply Kd.R_alloc | apply Kd.R_drewN | apply Kd.R_drew)); exact HO250.out) hb)
        have n4_ := Aside0.mk (Kd.R_below (by (with_reducible repeat (first | apply Kd.R_alloc | apply Kd.R_drewN | apply Kd.R_drew)); exact HO257.out) hb)
        have n5_ := Aside0.mk (blk_below (g := gb228) (o := .cells #[.int .i64 a0_0, .int .i64 a0_1, .int .i64 a0_2, .slice A0_3 l0_3.length c0_3, .int .i64 a0_4] 62 (0, 0)) (by (with_reducible repeat (first | refine blk_drewN ?_ _ | refine blk_drew ?_ | refine blk_alloc ?_ _)); exact BK228.out) hb)
        have n6_ := Aside0.mk (blk_below (g := gb247) (o := .cells #[.int .i64 t240, .int .i64 t241, .int .i64 t242, .slice Ao30 t243.length co30, .int .i64 t246] 65 (0, 0)) (by (with_reducible repeat (first | refine blk_drewN ?_ _ | refine blk_drew ?_ | refine blk_alloc ?_ _)); exact BK247.out) hb)
        have n7_ := Aside0.mk (below_step (by repeat (first | (with_reducible first | exact HB.out | apply below_alloc | apply pw_below_drewN | apply below_drew1 | refine below_set ?_ GE228.out | refine below_set ?_ GE247.out) | exact HB.out)) hb)
        clear HO235
        clear HO239
        clear HO245
        clear HO250
        clear HO257
        clear BK228
        clear BK247
        clear HB
        have HO235 := n0_
        have HO239 := n1_
        have HO245 := n2_
        have HO250 := n3_
        have HO257 := n4_
        have BK228 := n5_
        have BK247 := n6_
        have HB := n7_
        clear n0_ n1_ n2_ n3_ n4_ n5_ n6_ n7_
        (try clear hb)
        (try clear hb2)
        (try clear hk)
        (try clear hi)
        refine hK.out _ _ ⟨(blk_cell BK247.out 0).trans rfl, (blk_cell BK247.out 1).trans rfl, (blk_cell BK247.out 2).trans rfl, (blk_cell BK247.out 3).trans rfl, (blk_cell BK247.out 4).trans rfl, (blk_cell BK228.out 0).trans rfl, (blk_cell BK228.out 1).trans rfl, (blk_cell BK228.out 2).trans rfl, (blk_cell BK228.out 3).trans rfl, (blk_cell BK228.out 4).trans rfl⟩ (fun hHeld => ?_)
        clear hK K
        refine norm_ (a' := ?_) ?_ ?_
        rotate_left
        · show Act.put _ (some 30) _ = _
          simp only [Act.put, List.setIfInBounds_toArray, List.set_cons_zero, List.set_cons_succ, i64_w, i32_w]
          rfl
        refine pure_ (i := 4) (N := some 31) (v := ?_) (a' := ?_) #[true, true, true, true, true] rfl rfl (by kernel_rfl) (fun _ _ _ h => h) (Or.inl ⟨by rfl, ?_⟩) ?_ ?_
        rotate_left
        · intro w'
          go_simp
          with_reducible rfl
        rotate_left
        · simp only [Act.put, List.setIfInBounds_toArray, List.set_cons_zero, List.set_cons_succ, i64_w, i32_w]
          rfl
        refine done_ (by kernel_rfl) ?_
        have hcz38_0 : w37.cell? ⟨gb247, 0, none⟩ = some (.int .i64 t240) := (blk_cell BK247.out 0).trans rfl
        have hcz38_1 : w37.cell? ⟨gb247, 1, none⟩ = some (.int .i64 t241) := (blk_cell BK247.out 1).trans rfl
        have hcz38_2 : w37.cell? ⟨gb247, 2, none⟩ = some (.int .i64 t242) := (blk_cell BK247.out 2).trans rfl
        have hcz38_3 : w37.cell? ⟨gb247, 3, none⟩ = some (.slice Ao30 t243.length co30) := (blk_cell BK247.out 3).trans rfl
        have hcz38_4 : w37.cell? ⟨gb247, 4, none⟩ = some (.int .i64 t246) := (blk_cell BK247.out 4).trans rfl
        have hfz38_0 := blk_frozen BK247.out 0
        have hfz38_1 := blk_frozen BK247.out 1
        have hfz38_2 := blk_frozen BK247.out 2
        have hfz38_3 := blk_frozen BK247.out 3
        have hfz38_4 := blk_frozen BK247.out 4
        go_upto_region 14 with (first | ((with_reducible refine gate_callee (f := 43) rfl ?_); refine goesL_ (some 34) rfl rfl Try.func43 (by kernel_rfl) rfl #[.agg #[.int .i64 t240, .int .i64 t241, .int .i64 t242, .slice Ao30 t243.length co30, .int .i64 t246], .int .i64 1] rfl (by (try simp only [List.map_toArray, List.map_cons, List.map_nil]); first | done | rfl | (simp only [List.length_drop, List.length_take]; rfl)) ?_; (with_reducible refine (laws_markInode.calls k t240 t241 t242 (fun k_ => some k_ = (.slice Ao30 t243.length co30 : Value).ownBlock) (.slice Ao30 t243.length co30) t243 t246 1 t260 t261 w _ ?side1 ?side2 A16.out).mono ?_); (case side1 => repeat (first | (with_reducible first | exact HB.out | apply below_alloc | apply pw_below_drewN | apply below_drew1 | refine below_set ?_ GE228.out | refine below_set ?_ GE247.out) | exact HB.out)); (case side2 => exact Kd.R_tight rfl HO245.out); rintro e w39 ⟨rfl, hy0, hb, hkp⟩; refine ⟨_, rfl, ?_⟩; have n0_ := Aside0.mk (blk_kept (by (with_reducible repeat (first | refine blk_drewN ?_ _ | refine blk_drew ?_ | refine blk_alloc ?_ _)); exact BK228.out) hkp (fun hs_ => (fun e_ => (Kd.R_ne HO245.out BK228.out (by decide)) e_) hs_)); have n1_ := Aside0.mk (Kd.R_mono (ok' := fun k_ => some k_ ≠ (.slice Ao30 t243.length co30 : Value).ownBlock ∧ some k_ ≠ (.slice Ao36 t255.length co36 : Value).ownBlock) (Kd.R_keptB (HO235.out) hkp (fun k_ hk_ hs_ => by first | exact (hk_.1.2) hs_ | exact hk_.1 hs_ | exact hk_.2 hs_)) (fun k_ hk_ => by first | exact ⟨hk_.1.1.2, hk_.1.2⟩ | exact ⟨hk_.1.1, hk_.1.2⟩)); have n2_ := Aside0.mk (Kd.R_mono (ok' := fun k_ => some k_ ≠ (.slice Ao32 t248.length co32 : Value).ownBlock) (Kd.R_keptB ((Kd.R_apart' HO239.out (Kd.R_typed HO245.out) (by decide))) hkp (fun k_ hk_ hs_ => by first | exact (hk_.2) hs_ | exact hk_.1 hs_ | exact hk_.2 hs_)) (fun k_ hk_ => by first | exact hk_.1.1.2 | exact hk_.1.1)); have n3_ := Aside0.mk (Kd.R_reok rfl hy0 (fun k_ e_ => HO245.out.1 k_ e_)); have n4_ := Aside0.mk (blk_kept (by (with_reducible repeat (first | refine blk_drewN ?_ _ | refine blk_drew ?_ | refine blk_alloc ?_ _)); exact BK247.out) hkp (fun hs_ => (fun e_ => (Kd.R_ne HO245.out BK247.out (by decide)) e_) hs_)); have n5_ := Aside0.mk (Kd.R_mono (ok' := fun k_ => some k_ ≠ (.slice Ao33 t237.length co33 : Value).ownBlock) (Kd.R_keptB ((Kd.R_apart' HO250.out (Kd.R_typed HO245.out) (by decide))) hkp (fun k_ hk_ hs_ => by first | exact (hk_.2) hs_ | exact hk_.1 hs_ | exact hk_.2 hs_)) (fun k_ hk_ => by first | exact hk_.1.1.2 | exact hk_.1.1)); have n6_ := Aside0.mk (Kd.R_mono (ok' := fun k_ => some k_ ≠ (.slice Ao23 t233.length co23 : Value).ownBlock ∧ some k_ ≠ (.slice Ao30 t243.length co30 : Value).ownBlock) (Kd.R_keptB (HO257.out) hkp (fun k_ hk_ hs_ => by first | exact (hk_.2) hs_ | exact hk_.1 hs_ | exact hk_.2 hs_)) (fun k_ hk_ => by first | exact ⟨hk_.1.1.2, hk_.1.2⟩ | exact ⟨hk_.1.1, hk_.1.2⟩)); have n7_ := Aside0.mk (hb); clear BK228; clear HO235; clear HO239; clear HO245; clear BK247; clear HO250; clear HO257; clear HB; have BK228 := n0_; have HO235 := n1_; have HO239 := n2_; have HO245 := n3_; have BK247 := n4_; have HO250 := n5_; have HO257 := n6_; have HB := n7_; clear n0_ n1_ n2_ n3_ n4_ n5_ n6_ n7_; (try clear hb); (try clear hkp); (try clear hy0)))
        (try simp only [Act.put, List.setIfInBounds_toArray, List.set_cons_zero, List.set_cons_succ])
        go_cut [42] (fun v42 wc => ∃ (kq : Nat) (x42_16 : Bool), v42 = .bool x42_16 ∧ Aside0 (laws_FnExactEncodeInode.j0 kq t237 t248 x42_16 a0_0 a0_1 a0_2 l0_3 a0_4 = some r) ∧ Aside0 (kq ≤ k) ∧ Aside0 (Kd.R (Kd.int .u8) 5 wc w.heap.size (fun k_ => some k_ ≠ ((.slice Ao32 t248.length co32) : Value).ownBlock) (.slice Ao33 t237.length co33) t237) ∧ Aside0 (Kd.R (Kd.int .u8) 5 wc w.heap.size (fun k_ => some k_ ≠ ((.slice Ao33 t237.length co33) : Value).ownBlock) (.slice Ao32 t248.length co32) t248) ∧ Aside0 (Kd.R (Kd.int .i64) 2 wc w.heap.size (fun _ => True) (.slice Ao30 t243.length co30) t261) ∧ Aside0 (wc.heap[gb228]? = some (.cells #[.int .i64 a0_0, .int .i64 a0_1, .int .i64 a0_2, (.slice A0_3 l0_3.length c0_3), .int .i64 a0_4] 62 (0, 0))) ∧ Aside0 (wc.heap[gb247]? = some (.cells #[.int .i64 t240, .int .i64 t241, .int .i64 t242, (.slice Ao30 t243.length co30), .int .i64 t246] 65 (0, 0))) ∧ Aside0 (Below w.heap.size w wc))
        case first =>
          have H := HC17.out
          clear HC17
          by_cases c40 : t260 < 0
          · rw [if_pos c40] at H
            have c40b0 : decide (t260 < 0) = true := decide_eq_true c40
            clear c40
            (first | rw [c40b0] | (simp only [i64_w, i32_w]; rw [c40b0]) | skip)
            have H' := Aside0.mk H
            clear H
            go_wp2
            go_meet
            case rel => exact ⟨_, (true), (by first | rfl | (simp; done) | (simp [*]; done)), H', ⟨by first | omega | exact Nat.le_refl _⟩, ⟨by (with_reducible repeat (first | apply Kd.R_alloc | apply Kd.R_drewN | apply Kd.R_drew)); exact HO239.out⟩, ⟨by (with_reducible repeat (first | apply Kd.R_alloc | apply Kd.R_drewN | apply Kd.R_drew)); exact HO250.out⟩, ⟨by (with_reducible repeat (first | apply Kd.R_alloc | apply Kd.R_drewN | apply Kd.R_drew)); exact Kd.R_mono HO245.out (fun _ hk => trivial)⟩, ⟨by (with_reducible repeat (first | refine blk_drewN ?_ _ | refine blk_drew ?_ | refine blk_alloc ?_ _)); exact BK228.out⟩, ⟨by (with_reducible repeat (first | refine blk_drewN ?_ _ | refine blk_drew ?_ | refine blk_alloc ?_ _)); exact BK247.out⟩, ⟨by repeat (first | (with_reducible first | exact HB.out | apply below_alloc | apply pw_below_drewN | apply below_drew1 | refine below_set ?_ GE228.out | refine below_set ?_ GE247.out) | exact HB.out)⟩⟩
          · rw [if_neg c40] at H
            have c40b0 : decide (t260 < 0) = false := decide_eq_false c40
            clear c40
            (first | rw [c40b0] | (simp only [i64_w, i32_w]; rw [c40b0]) | skip)
            replace H := Option.bind_eq_some_iff.mp H
            obtain ⟨t262, A410, H⟩ := H
            replace H : (laws_FnExactEncodeInode.j0 k t237 t248 (!t262) a0_0 a0_1 a0_2 l0_3 a0_4) = some r := H
            have A41 := Aside0.mk A410
            clear A410
            have H' := Aside0.mk H
            clear H
            go_wp2_with (first | (go_at_call 14; (with_reducible refine (laws_eqByteS.calls k _ _ t248 _ _ t237 t262 _ ?side1 ?side2 ?side3 ?side4 A41.out).mono ?_); (case side1 => repeat (first | exact (Kd.R_reads' HO250.out).2.2 | (with_reducible refine Kd.C_alloc ?_ _) | (with_reducible refine Kd.C_drewN ?_ _) | (with_reducible refine Kd.C_drew ?_))); (case side2 => exact (Kd.R_reads' HO250.out).2.1); (case side3 => repeat (first | exact (Kd.R_reads' HO239.out).2.2 | (with_reducible refine Kd.C_alloc ?_ _) | (with_reducible refine Kd.C_drewN ?_ _) | (with_reducible refine Kd.C_drew ?_))); (case side4 => exact (Kd.R_reads' HO239.out).2.1); rintro e w' ⟨rfl, ⟨nd, rfl⟩⟩))
            go_meet
            case rel => exact ⟨_, (!t262), (by first | rfl | (simp; done) | (simp [*]; done)), H', ⟨by first | omega | exact Nat.le_refl _⟩, ⟨by (with_reducible repeat (first | apply Kd.R_alloc | apply Kd.R_drewN | apply Kd.R_drew)); exact HO239.out⟩, ⟨by (with_reducible repeat (first | apply Kd.R_alloc | apply Kd.R_drewN | apply Kd.R_drew)); exact HO250.out⟩, ⟨by (with_reducible repeat (first | apply Kd.R_alloc | apply Kd.R_drewN | apply Kd.R_drew)); exact Kd.R_mono HO245.out (fun _ hk => trivial)⟩, ⟨by (with_reducible repeat (first | refine blk_drewN ?_ _ | refine blk_drew ?_ | refine blk_alloc ?_ _)); exact BK228.out⟩, ⟨by (with_reducible repeat (first | refine blk_drewN ?_ _ | refine blk_drew ?_ | refine blk_alloc ?_ _)); exact BK247.out⟩, ⟨by repeat (first | (with_reducible first | exact HB.out | apply below_alloc | apply pw_below_drewN | apply below_drew1 | refine below_set ?_ GE228.out | refine below_set ?_ GE247.out) | exact HB.out)⟩⟩
        case rest =>
          clear HC17
          try clear c1
          try clear c2
          try clear p2
          try clear c3
          try clear c3b0
          try clear c4
          try clear c8
          try clear c12
          try clear c14
          try clear c15
          try clear c28
          try clear c38
          try clear c39
          try clear c40
          try clear c40b0
          try clear c41
          try clear hcz19_0
          try clear hcz19_1
          try clear hcz19_2
          try clear hcz19_3
          try clear hcz19_4
          try clear hcz21_0
          try clear hcz21_1
          try clear hcz21_2
          try clear hcz21_3
          try clear hcz21_4
          try clear hcz25_0
          try clear hcz25_1
          try clear hcz25_2
          try clear hcz25_3
          try clear hcz25_4
          try clear hcz29_0
          try clear hcz29_1
          try clear hcz29_2
          try clear hcz29_3
          try clear hcz29_4
          try clear hcz38_0
          try clear hcz38_1
          try clear hcz38_2
          try clear hcz38_3
          try clear hcz38_4
          try clear hcz5_0
          try clear hcz5_1
          try clear hcz5_2
          try clear hcz5_3
          try clear hcz5_4
          try clear hfz19_0
          try clear hfz19_1
          try clear hfz19_2
          try clear hfz19_3
          try clear hfz19_4
          try clear hfz21_0
          try clear hfz21_1
          try clear hfz21_2
          try clear hfz21_3
          try clear hfz21_4
          try clear hfz25_0
          try clear hfz25_1
          try clear hfz25_2
          try clear hfz25_3
          try clear hfz25_4
          try clear hfz29_0
          try clear hfz29_1
          try clear hfz29_2
          try clear hfz29_3
          try clear hfz29_4
          try clear hfz38_0
          try clear hfz38_1
          try clear hfz38_2
          try clear hfz38_3
          try clear hfz38_4
          try clear hfz5_0
          try clear hfz5_1
          try clear hfz5_2
          try clear hfz5_3
          try clear hfz5_4
          obtain ⟨kq, x42_16, rfl, HA, HJ16, HO_4, HO_6, HO_248003, BK228, BK247, HB⟩ := hcut
          have hl248003_16 := (Kd.R_reads' HO_248003.out).1
          rw [hl248003_16] at HO_248003
          (try simp only [hl248003_16])
          (try simp only [hl248003_16] at BK228)
          (try simp only [hl248003_16] at BK247)
          (try simp only [hl248003_16] at HO_4)
          (try simp only [hl248003_16] at HO_6)
          cases kq with
          | zero => exact absurd HA.out (by simp [laws_FnExactEncodeInode.j0])
          | succ kj16 =>
            have H := HA.out
            clear HA
            simp only [laws_FnExactEncodeInode.j0] at H
            by_cases c42 : x42_16 = true
            · subst c42
              have H1 : (some false) = some r := by rw [if_pos rfl] at H; exact H
              clear H
              have H := H1
              clear H1
              exact absurd ((Option.some.inj H).trans hrt.out) (by simp)
            · replace c42 := Bool.eq_false_iff.mpr c42
              subst c42
              have H1 : ((laws_markByteS.f kj16 t248 1).bind fun bt263 => ((laws_heldByteS.f kj16 bt263.2 1).bind fun t265 => (if t265 < 0 then (some false) else (if t265 = bt263.1 then ((laws_toInode.f kj16 a0_0 a0_1 a0_2 l0_3 a0_4).bind fun bt266 => ((impl_EncodeInode.f kj16 bt266.1 bt266.2.1 bt266.2.2.1 bt266.2.2.2.1 bt266.2.2.2.2).bind fun t273 => ((laws_eqByteS.f kj16 t273 t237).bind fun t276 => (if t276 = true then ((laws_heldByteS.f kj16 bt263.2 1).bind fun t277 => (if t277 < 0 then (some false) else (if t277 = bt263.1 then (some true) else (some false)))) else (some false))))) else (some false))))) = some r := by rw [if_neg (show ¬ (false = true) by decide)] at H; exact H
              clear H
              have H := H1
              clear H1
              replace H := Option.bind_eq_some_iff.mp H
              obtain ⟨⟨t263, t264⟩, A430, H⟩ := H
              replace H : ((laws_heldByteS.f kj16 t264 1).bind fun t265 => (if t265 < 0 then (some false) else (if t265 = t263 then ((laws_toInode.f kj16 a0_0 a0_1 a0_2 l0_3 a0_4).bind fun bt266 => ((impl_EncodeInode.f kj16 bt266.1 bt266.2.1 bt266.2.2.1 bt266.2.2.2.1 bt266.2.2.2.2).bind fun t273 => ((laws_eqByteS.f kj16 t273 t237).bind fun t276 => (if t276 = true then ((laws_heldByteS.f kj16 t264 1).bind fun t277 => (if t277 < 0 then (some false) else (if t277 = t263 then (some true) else (some false)))) else (some false))))) else (some false)))) = some r := H
              have A43 := Aside0.mk A430
              clear A430
              replace H := Option.bind_eq_some_iff.mp H
              obtain ⟨t265, A440, H⟩ := H
              replace H : (if t265 < 0 then (some false) else (if t265 = t263 then ((laws_toInode.f kj16 a0_0 a0_1 a0_2 l0_3 a0_4).bind fun bt266 => ((impl_EncodeInode.f kj16 bt266.1 bt266.2.1 bt266.2.2.1 bt266.2.2.2.1 bt266.2.2.2.2).bind fun t273 => ((laws_eqByteS.f kj16 t273 t237).bind fun t276 => (if t276 = true then ((laws_heldByteS.f kj16 t264 1).bind fun t277 => (if t277 < 0 then (some false) else (if t277 = t263 then (some true) else (some false)))) else (some false))))) else (some false))) = some r := H
              have A44 := Aside0.mk A440
              clear A440
              by_cases c45 : t265 < 0
              · rw [if_pos c45] at H
                have c45b0 : decide (t265 < 0) = true := decide_eq_true c45
                clear c45
                exact absurd ((Option.some.inj H).trans hrt.out) (by simp)
              · rw [if_neg c45] at H
                have c45b0 : decide (t265 < 0) = false := decide_eq_false c45
                clear c45
                by_cases c46 : t265 = t263
                · rw [if_pos c46] at H
                  have c46b0 : (t265 == t263) = true := beq_iff_eq.mpr c46
                  have c46b1 : (t265 != t263) = false := bne_eq_false_iff_eq.mpr c46
                  clear c46
                  replace H := Option.bind_eq_some_iff.mp H
                  obtain ⟨⟨t266, t267, t268, t269, t272⟩, A470, H⟩ := H
                  replace H : ((impl_EncodeInode.f kj16 t266 t267 t268 t269 t272).bind fun t273 => ((laws_eqByteS.f kj16 t273 t237).bind fun t276 => (if t276 = true then ((laws_heldByteS.f kj16 t264 1).bind fun t277 => (if t277 < 0 then (some false) else (if t277 = t263 then (some true) else (some false)))) else (some false)))) = some r := H
                  have A47 := Aside0.mk A470
                  clear A470
                  replace H := Option.bind_eq_some_iff.mp H
                  obtain ⟨t273, A480, H⟩ := H
                  replace H : ((laws_eqByteS.f kj16 t273 t237).bind fun t276 => (if t276 = true then ((laws_heldByteS.f kj16 t264 1).bind fun t277 => (if t277 < 0 then (some false) else (if t277 = t263 then (some true) else (some false)))) else (some false))) = some r := H
                  have A48 := Aside0.mk A480
                  clear A480
                  replace H := Option.bind_eq_some_iff.mp H
                  obtain ⟨t276, A490, H⟩ := H
                  replace H : (if t276 = true then ((laws_heldByteS.f kj16 t264 1).bind fun t277 => (if t277 < 0 then (some false) else (if t277 = t263 then (some true) else (some false)))) else (some false)) = some r := H
                  have A49 := Aside0.mk A490
                  clear A490
                  by_cases c50 : t276 = true
                  · subst c50
                    have H1 : ((laws_heldByteS.f kj16 t264 1).bind fun t277 => (if t277 < 0 then (some false) else (if t277 = t263 then (some true) else (some false)))) = some r := by rw [if_pos rfl] at H; exact H
                    clear H
                    have H := H1
                    clear H1
                    replace H := Option.bind_eq_some_iff.mp H
                    obtain ⟨t277, A510, H⟩ := H
                    replace H : (if t277 < 0 then (some false) else (if t277 = t263 then (some true) else (some false))) = some r := H
                    have A51 := Aside0.mk A510
                    clear A510
                    by_cases c52 : t277 < 0
                    · rw [if_pos c52] at H
                      have c52b0 : decide (t277 < 0) = true := decide_eq_true c52
                      clear c52
                      exact absurd ((Option.some.inj H).trans hrt.out) (by simp)
                    · rw [if_neg c52] at H
                      have c52b0 : decide (t277 < 0) = false := decide_eq_false c52
                      clear c52
                      by_cases c53 : t277 = t263
                      · rw [if_pos c53] at H
                        have c53b0 : (t277 == t263) = true := beq_iff_eq.mpr c53
                        have c53b1 : (t277 != t263) = false := bne_eq_false_iff_eq.mpr c53
                        clear c53
                        obtain rfl := Option.some.inj H
                        go_wp2_with (first | ((with_reducible refine gate_callee (f := 17) rfl ?_); refine goesL_ (some 45) rfl rfl Try.func17 (by kernel_rfl) rfl #[.slice Ao32 t248.length co32, .int .i64 1] rfl (by (try simp only [List.map_toArray, List.map_cons, List.map_nil]); first | done | rfl | (simp only [List.length_drop, List.length_take]; rfl)) ?_; (with_reducible refine (laws_markByteS.calls kj16 (fun k_ => some k_ = (.slice Ao32 t248.length co32 : Value).ownBlock) (.slice Ao32 t248.length co32) t248 1 t263 t264 w _ ?side1 ?side2 A43.out).mono ?_); (case side1 => repeat (first | (with_reducible first | exact HB.out | apply below_alloc | apply pw_below_drewN | apply below_drew1 | refine below_set ?_ GE228.out | refine below_set ?_ GE247.out) | exact HB.out)); (case side2 => exact Kd.R_tight rfl HO_6.out); rintro e w54 ⟨rfl, hy0, hb, hkp⟩; refine ⟨_, rfl, ?_⟩; have n0_ := Aside0.mk (Kd.R_mono (ok' := fun k_ => some k_ ≠ (.slice Ao32 t248.length co32 : Value).ownBlock) (Kd.R_keptB (HO_4.out) hkp (fun k_ hk_ hs_ => by first | exact (hk_) hs_ | exact hk_.1 hs_ | exact hk_.2 hs_)) (fun k_ hk_ => hk_.1)); have n1_ := Aside0.mk (Kd.R_reok rfl hy0 (fun k_ e_ => HO_6.out.1 k_ e_)); have n2_ := Aside0.mk (Kd.R_mono (ok' := fun k_ => True) (Kd.R_keptB ((Kd.R_apart' HO_248003.out (Kd.R_typed HO_6.out) (by decide))) hkp (fun k_ hk_ hs_ => by first | exact (hk_.2) hs_ | exact hk_.1 hs_ | exact hk_.2 hs_)) (fun k_ hk_ => trivial)); have n3_ := Aside0.mk (blk_kept (by (with_reducible repeat (first | refine blk_drewN ?_ _ | refine blk_drew ?_ | refine blk_alloc ?_ _)); exact BK228.out) hkp (fun hs_ => (fun e_ => (Kd.R_ne HO_6.out BK228.out (by decide)) e_) hs_)); have n4_ := Aside0.mk (blk_kept (by (with_reducible repeat (first | refine blk_drewN ?_ _ | refine blk_drew ?_ | refine blk_alloc ?_ _)); exact BK247.out) hkp (fun hs_ => (fun e_ => (Kd.R_ne HO_6.out BK247.out (by decide)) e_) hs_)); have n5_ := Aside0.mk (hb); clear HO_4; clear HO_6; clear HO_248003; clear BK228; clear BK247; clear HB; have HO_4 := n0_; have HO_6 := n1_; have HO_248003 := n2_; have BK228 := n3_; have BK247 := n4_; have HB := n5_; clear n0_ n1_ n2_ n3_ n4_ n5_; (try clear hb); (try clear hkp); (try clear hy0)) | ((with_reducible refine gate_callee (f := 18) rfl ?_); refine goesL_ (some 48) rfl rfl Try.func18 (by kernel_rfl) rfl #[.slice Ao32 t264.length co32, .int .i64 1] rfl (by (try simp only [List.map_toArray, List.map_cons, List.map_nil]); first | done | (rw [show t264.length = t248.length from (Kd.R_reads' HO_6.out).1.symm] <;> rfl) | rfl | (simp only [List.length_drop, List.length_take]; rfl)) ?_; (with_reducible refine (laws_heldByteS.calls kj16 _ _ t264 1 t265 _ ?side1 ?side2 A44.out).mono ?_); (case side1 => repeat (first | exact (Kd.R_reads' HO_6.out).2.2 | (with_reducible refine Kd.C_alloc ?_ _) | (with_reducible refine Kd.C_drewN ?_ _) | (with_reducible refine Kd.C_drew ?_))); (case side2 => rw [show t264.length = t248.length from (Kd.R_reads' HO_6.out).1.symm]; exact (Kd.R_reads' HO_6.out).2.1); rintro e w' ⟨rfl, ⟨nd, rfl⟩⟩; refine ⟨_, rfl, ?_⟩; have hnb55 := NB228_247.out; have hnc55 := NB247_228.out; have hcz56_0 : w54.cell? ⟨gb228, 0, none⟩ = some (.int .i64 a0_0) := (blk_cell BK228.out 0).trans rfl; have hcz56_1 : w54.cell? ⟨gb228, 1, none⟩ = some (.int .i64 a0_1) := (blk_cell BK228.out 1).trans rfl; have hcz56_2 : w54.cell? ⟨gb228, 2, none⟩ = some (.int .i64 a0_2) := (blk_cell BK228.out 2).trans rfl; have hcz56_3 : w54.cell? ⟨gb228, 3, none⟩ = some (.slice A0_3 l0_3.length c0_3) := (blk_cell BK228.out 3).trans rfl; have hcz56_4 : w54.cell? ⟨gb228, 4, none⟩ = some (.int .i64 a0_4) := (blk_cell BK228.out 4).trans rfl; have hfz56_0 := blk_frozen BK228.out 0; have hfz56_1 := blk_frozen BK228.out 1; have hfz56_2 := blk_frozen BK228.out 2; have hfz56_3 := blk_frozen BK228.out 3; have hfz56_4 := blk_frozen BK228.out 4) | ((with_reducible refine gate_callee (f := 40) rfl ?_); refine goesL_ (some 55) rfl rfl Try.func40 (by kernel_rfl) rfl #[.agg #[.int .i64 a0_0, .int .i64 a0_1, .int .i64 a0_2, .slice A0_3 l0_3.length c0_3, .int .i64 a0_4]] rfl (by (try simp only [List.map_toArray, List.map_cons, List.map_nil]); first | done | rfl | (simp only [List.length_drop, List.length_take]; rfl)) ?_; (with_reducible refine (laws_toInode.calls kj16 a0_0 a0_1 a0_2 _ _ l0_3 a0_4 t266 t267 t268 t269 t272 _ ?side1 ?side2 A47.out).mono ?_); (case side1 => repeat (first | exact (Kd.C_below HR0_3.out (by repeat (first | (with_reducible first | exact HB.out | apply below_alloc | apply pw_below_drewN | apply below_drew1 | refine below_set ?_ GE228.out | refine below_set ?_ GE247.out) | exact HB.out))) | (with_reducible refine Kd.C_alloc ?_ _) | (with_reducible refine Kd.C_drewN ?_ _) | (with_reducible refine Kd.C_drew ?_))); (case side2 => exact HC0_3.out); rintro e w57 ⟨v270, rfl, ho0, hb⟩; refine ⟨_, rfl, ?_⟩; have n0_ := Aside0.mk (Kd.R_below (by (with_reducible repeat (first | apply Kd.R_alloc | apply Kd.R_drewN | apply Kd.R_drew)); exact HO_4.out) hb); have n1_ := Aside0.mk (Kd.R_below (by (with_reducible repeat (first | apply Kd.R_alloc | apply Kd.R_drewN | apply Kd.R_drew)); exact HO_6.out) hb); have n2_ := Aside0.mk (Kd.R_elder' (by (with_reducible repeat (first | apply Kd.R_alloc | apply Kd.R_drewN | apply Kd.R_drew)); exact HO_248003.out) (Kd.R_base ho0) hb); have n3_ := Aside0.mk (Kd.R_lower (Kd.R_new' ho0 (Kd.R_lt (by (with_reducible repeat (first | apply Kd.R_alloc | apply Kd.R_drewN | apply Kd.R_drew)); exact HO_248003.out))) (below_size (by repeat (first | (with_reducible first | exact HB.out | apply below_alloc | apply pw_below_drewN | apply below_drew1 | refine below_set ?_ GE228.out | refine below_set ?_ GE247.out) | exact HB.out)))); have n4_ := Aside0.mk (blk_below (g := gb228) (o := .cells #[.int .i64 a0_0, .int .i64 a0_1, .int .i64 a0_2, .slice A0_3 l0_3.length c0_3, .int .i64 a0_4] 62 (0, 0)) (by (with_reducible repeat (first | refine blk_drewN ?_ _ | refine blk_drew ?_ | refine blk_alloc ?_ _)); exact BK228.out) hb); have n5_ := Aside0.mk (blk_below (g := gb247) (o := .cells #[.int .i64 t240, .int .i64 t241, .int .i64 t242, .slice Ao30 t261.length co30, .int .i64 t246] 65 (0, 0)) (by (with_reducible repeat (first | refine blk_drewN ?_ _ | refine blk_drew ?_ | refine blk_alloc ?_ _)); exact BK247.out) hb); have n6_ := Aside0.mk (below_step (by repeat (first | (with_reducible first | exact HB.out | apply below_alloc | apply pw_below_drewN | apply below_drew1 | refine below_set ?_ GE228.out | refine below_set ?_ GE247.out) | exact HB.out)) hb); clear HO_4; clear HO_6; clear HO_248003; clear BK228; clear BK247; clear HB; have HO_4 := n0_; have HO_6 := n1_; have HO_248003 := n2_; have HO271 := n3_; have BK228 := n4_; have BK247 := n5_; have HB := n6_; clear n0_ n1_ n2_ n3_ n4_ n5_ n6_; (try clear hb); (try clear hb2); (try clear hk); (try clear hi); (try clear ho0); obtain ⟨Ao58, co58, eo58⟩ := Kd.R_slice HO271.out; subst eo58) | ((with_reducible refine gate_callee (f := 41) rfl ?_); refine goesL_ (some 56) rfl rfl Try.func41 (by kernel_rfl) rfl #[.agg #[.int .i64 t266, .int .i64 t267, .int .i64 t268, .slice Ao58 t269.length co58, .int .i64 t272]] rfl (by (try simp only [List.map_toArray, List.map_cons, List.map_nil]); first | done | rfl | (simp only [List.length_drop, List.length_take]; rfl)) ?_; (with_reducible refine (impl_EncodeInode.calls kj16 t266 t267 t268 _ _ t269 t272 t273 _ ?side1 ?side2 A48.out).mono ?_); (case side1 => repeat (first | exact (Kd.R_reads' HO271.out).2.2 | (with_reducible refine Kd.C_alloc ?_ _) | (with_reducible refine Kd.C_drewN ?_ _) | (with_reducible refine Kd.C_drew ?_))); (case side2 => exact (Kd.R_reads' HO271.out).2.1); rintro e w59 ⟨v274, rfl, ho0, hb⟩; refine ⟨_, rfl, ?_⟩; have n0_ := Aside0.mk (Kd.R_elder' (by (with_reducible repeat (first | apply Kd.R_alloc | apply Kd.R_drewN | apply Kd.R_drew)); exact HO_4.out) (Kd.R_base ho0) hb); have n1_ := Aside0.mk (Kd.R_elder' (by (with_reducible repeat (first | apply Kd.R_alloc | apply Kd.R_drewN | apply Kd.R_drew)); exact HO_6.out) (Kd.R_base ho0) hb); have n2_ := Aside0.mk (Kd.R_below (by (with_reducible repeat (first | apply Kd.R_alloc | apply Kd.R_drewN | apply Kd.R_drew)); exact HO_248003.out) hb); have n3_ := Aside0.mk (Kd.R_below (by (with_reducible repeat (first | apply Kd.R_alloc | apply Kd.R_drewN | apply Kd.R_drew)); exact HO271.out) hb); have n4_ := Aside0.mk (Kd.R_lower (Kd.R_new' (Kd.R_new' ho0 (Kd.R_lt (by (with_reducible repeat (first | apply Kd.R_alloc | apply Kd.R_drewN | apply Kd.R_drew)); exact HO_4.out))) (Kd.R_lt (by (with_reducible repeat (first | apply Kd.R_alloc | apply Kd.R_drewN | apply Kd.R_drew)); exact HO_6.out))) (below_size (by repeat (first | (with_reducible first | exact HB.out | apply below_alloc | apply pw_below_drewN | apply below_drew1 | refine below_set ?_ GE228.out | refine below_set ?_ GE247.out) | exact HB.out)))); have n5_ := Aside0.mk (blk_below (g := gb228) (o := .cells #[.int .i64 a0_0, .int .i64 a0_1, .int .i64 a0_2, .slice A0_3 l0_3.length c0_3, .int .i64 a0_4] 62 (0, 0)) (by (with_reducible repeat (first | refine blk_drewN ?_ _ | refine blk_drew ?_ | refine blk_alloc ?_ _)); exact BK228.out) hb); have n6_ := Aside0.mk (blk_below (g := gb247) (o := .cells #[.int .i64 t240, .int .i64 t241, .int .i64 t242, .slice Ao30 t261.length co30, .int .i64 t246] 65 (0, 0)) (by (with_reducible repeat (first | refine blk_drewN ?_ _ | refine blk_drew ?_ | refine blk_alloc ?_ _)); exact BK247.out) hb); have n7_ := Aside0.mk (below_step (by repeat (first | (with_reducible first | exact HB.out | apply below_alloc | apply pw_below_drewN | apply below_drew1 | refine below_set ?_ GE228.out | refine below_set ?_ GE247.out) | exact HB.out)) hb); clear HO_4; clear HO_6; clear HO_248003; clear HO271; clear BK228; clear BK247; clear HB; have HO_4 := n0_; have HO_6 := n1_; have HO_248003 := n2_; have HO271 := n3_; have HO275 := n4_; have BK228 := n5_; have BK247 := n6_; have HB := n7_; clear n0_ n1_ n2_ n3_ n4_ n5_ n6_ n7_; (try clear hb); (try clear hb2); (try clear hk); (try clear hi); (try clear ho0); obtain ⟨Ao60, co60, eo60⟩ := Kd.R_slice HO275.out; subst eo60) | ((with_reducible refine gate_callee (f := 14) rfl ?_); refine goesL_ (some 59) rfl rfl Try.func14 (by kernel_rfl) rfl #[.slice Ao60 t273.length co60, .slice Ao33 t237.length co33] rfl (by (try simp only [List.map_toArray, List.map_cons, List.map_nil]); first | done | rfl | (simp only [List.length_drop, List.length_take]; rfl)) ?_; (with_reducible refine (laws_eqByteS.calls kj16 _ _ t273 _ _ t237 true _ ?side1 ?side2 ?side3 ?side4 A49.out).mono ?_); (case side1 => repeat (first | exact (Kd.R_reads' HO275.out).2.2 | (with_reducible refine Kd.C_alloc ?_ _) | (with_reducible refine Kd.C_drewN ?_ _) | (with_reducible refine Kd.C_drew ?_))); (case side2 => exact (Kd.R_reads' HO275.out).2.1); (case side3 => repeat (first | exact (Kd.R_reads' HO_4.out).2.2 | (with_reducible refine Kd.C_alloc ?_ _) | (with_reducible refine Kd.C_drewN ?_ _) | (with_reducible refine Kd.C_drew ?_))); (case side4 => exact (Kd.R_reads' HO_4.out).2.1); rintro e w' ⟨rfl, ⟨nd, rfl⟩⟩; refine ⟨_, rfl, ?_⟩) | ((with_reducible refine gate_callee (f := 18) rfl ?_); refine goesL_ (some 63) rfl rfl Try.func18 (by kernel_rfl) rfl #[.slice Ao32 t264.length co32, .int .i64 1] rfl (by (try simp only [List.map_toArray, List.map_cons, List.map_nil]); first | done | (rw [show t264.length = t248.length from (Kd.R_reads' HO_6.out).1.symm] <;> rfl) | rfl | (simp only [List.length_drop, List.length_take]; rfl)) ?_; (with_reducible refine (laws_heldByteS.calls kj16 _ _ t264 1 t277 _ ?side1 ?side2 A51.out).mono ?_); (case side1 => repeat (first | exact (Kd.R_reads' HO_6.out).2.2 | (with_reducible refine Kd.C_alloc ?_ _) | (with_reducible refine Kd.C_drewN ?_ _) | (with_reducible refine Kd.C_drew ?_))); (case side2 => rw [show t264.length = t248.length from (Kd.R_reads' HO_6.out).1.symm]; exact (Kd.R_reads' HO_6.out).2.1); rintro e w' ⟨rfl, ⟨nd, rfl⟩⟩; refine ⟨_, rfl, ?_⟩))
                        go_ret
                        exact ⟨by first | rfl | (simp [errW_none, errW_some] <;> rfl) | (simp [*, errW_none, errW_some] <;> rfl), by repeat (first | (with_reducible first | exact HB.out | apply below_alloc | apply pw_below_drewN | apply below_drew1 | refine below_set ?_ GE228.out | refine below_set ?_ GE247.out) | exact HB.out)⟩
                      · rw [if_neg c53] at H
                        have c53b0 : (t277 == t263) = false := beq_eq_false_iff_ne.mpr c53
                        have c53b1 : (t277 != t263) = true := bne_iff_ne.mpr c53
                        exact absurd ((Option.some.inj H).trans hrt.out) (by simp)
                  · replace c50 := Bool.eq_false_iff.mpr c50
                    subst c50
                    have H1 : (some false) = some r := by rw [if_neg (show ¬ (false = true) by decide)] at H; exact H
                    clear H
                    have H := H1
                    clear H1
                    exact absurd ((Option.some.inj H).trans hrt.out) (by simp)
                · rw [if_neg c46] at H
                  have c46b0 : (t265 == t263) = false := beq_eq_false_iff_ne.mpr c46
                  have c46b1 : (t265 != t263) = true := bne_iff_ne.mpr c46
                  exact absurd ((Option.some.inj H).trans hrt.out) (by simp)
      · replace c15 := Bool.eq_false_iff.mpr c15
        subst c15
        have H1 : (some false) = some r := by rw [if_neg (show ¬ (false = true) by decide)] at H; exact H
        clear H
        have H := H1
        clear H1
        exact absurd ((Option.some.inj H).trans hrt.out) (by simp)
    · replace c12 := Bool.eq_false_iff.mpr c12
      subst c12
      have H1 : (some false) = some r := by rw [if_neg (show ¬ (false = true) by decide)] at H; exact H
      clear H
      have H := H1
      clear H1
      exact absurd ((Option.some.inj H).trans hrt.out) (by simp)

end Go.Proofs.Ytplefdkookhlhaa.PFnExactEncodeInode
