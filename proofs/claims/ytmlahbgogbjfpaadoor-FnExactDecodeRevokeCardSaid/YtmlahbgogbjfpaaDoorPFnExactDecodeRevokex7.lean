-- written by a program of this session (wip/src/print2.py)
import Derived.Test.YtmlahbgogbjfpaaDoorPFnExactDecodeRevokex0
import Derived.Test.YtmlahbgogbjfpaaDoorPFnExactDecodeRevokex4
import Derived.Test.YtmlahbgogbjfpaaDoorPFnExactDecodeRevokex5
import Derived.Test.YtmlahbgogbjfpaaDoorPFnExactDecodeRevokex6
namespace Go.Proofs.YtmlahbgogbjfpaaDoor.PFnExactDecodeRevoke
open Go.RowKit Go.Proofs.YtmlahbgogbjfpaaDoorW.PrintWords Go.Proofs.YtmlahbgogbjfpaaDoorW.PrintLast Go.Proofs.YtmlahbgogbjfpaaDoorW.PrintMore
attribute [local go_sem] max2_int min2_int max_two min_two max_three min_three max_four min_four   -- for this text's walks alone
set_option linter.unusedVariables false
set_option linter.unusedSimpArgs false

/-! ### impl_DecodeRevoke: function 12 -/
mutual
def impl_DecodeRevoke.j0 : Nat → List Int → Bool → Int → Int → Int → ByteArray → Option (Bool × Int × List Int)
  | 0, _, _, _, _, _, _ => none
  | k + 1, x0, x20, x263000, x263001, x263002, x263003 => if x20 = true then (some (false, 0, ([] : List Int))) else (impl_DecodeRevoke.l0 k x0 x263001 0 x263000 x263001 x263002 x263003 x263002 ([] : List Int))
def impl_DecodeRevoke.l0 : Nat → List Int → Int → Int → Int → Int → Int → ByteArray → Int → List Int → Option (Bool × Int × List Int)
  | 0, _, _, _, _, _, _, _, _, _ => none
  | k + 1, x0, x28, x29, x263000, x263001, x263002, x263003, x265000, x265001 => if x29 < x28 then ((impl_num.f k x0 (wrap64 (12 + (wrap64 (2 * x29)))) 2).bind fun t265 => (if x265001.length < 17592186044416 then (impl_DecodeRevoke.l0 k x0 x28 (wrap64 (x29 + 1)) x263000 x263001 x263002 x263003 x265000 (x265001 ++ [t265])) else (none))) else ((impl_EncodeRevoke.f k x265000 x265001).bind fun t269 => ((impl_jblock_held.f x263000 x263001 x263002 x263003 t269).bind fun t272 => ((impl_good.f t272).bind fun t273 => (if t273 = true then (some (true, x265000, x265001)) else (some (false, 0, ([] : List Int)))))))
end
def impl_DecodeRevoke.f (k : Nat) (l0 : List Int) : Option (Bool × Int × List Int) := (impl_parse.f k l0 3).bind fun bt257 => ((impl_good.f bt257.2.2.2.2).bind fun t263 => (if t263 = true then (impl_DecodeRevoke.j0 k l0 (decide (bt257.2.1 > 26)) bt257.1 bt257.2.1 bt257.2.2.1 bt257.2.2.2.1) else (impl_DecodeRevoke.j0 k l0 true bt257.1 bt257.2.1 bt257.2.2.1 bt257.2.2.2.1)))
theorem impl_DecodeRevoke.mono_l : ∀ k, (∀ y0 y1 y2 y3 y4 y5, LeO (impl_DecodeRevoke.j0 k y0 y1 y2 y3 y4 y5) (impl_DecodeRevoke.j0 (k + 1) y0 y1 y2 y3 y4 y5)) ∧ (∀ y0 y1 y2 y3 y4 y5 y6 y7 y8, LeO (impl_DecodeRevoke.l0 k y0 y1 y2 y3 y4 y5 y6 y7 y8) (impl_DecodeRevoke.l0 (k + 1) y0 y1 y2 y3 y4 y5 y6 y7 y8))
  | 0 => ⟨fun _ _ _ _ _ _ r h => by simp [impl_DecodeRevoke.j0] at h, fun _ _ _ _ _ _ _ _ _ r h => by simp [impl_DecodeRevoke.l0] at h⟩
  | k + 1 => by
    obtain ⟨ih0, ih1⟩ := impl_DecodeRevoke.mono_l k
    refine ⟨?_, ?_⟩
    · intro y0 y1 y2 y3 y4 y5
      unfold impl_DecodeRevoke.j0
      repeat' first
      | (with_reducible exact ih0 _ _ _ _ _ _)
      | (with_reducible exact ih1 _ _ _ _ _ _ _ _ _)
      | (with_reducible exact impl_EncodeRevoke.mono _ _ _)
      | (with_reducible exact impl_num.mono _ _ _ _)
      | (with_reducible exact impl_parse.mono _ _ _)
      | (with_reducible exact LeO.refl _)
      | (with_reducible exact LeO.none _)
      | (with_reducible refine LeO.ite ?_ ?_)
      | (with_reducible refine LeO.bind ?_ (fun _ => ?_))
      | exact ih0 _ _ _ _ _ _
      | exact ih1 _ _ _ _ _ _ _ _ _
      | exact impl_EncodeRevoke.mono _ _ _
      | exact impl_num.mono _ _ _ _
      | exact impl_parse.mono _ _ _
      | exact LeO.none _
      | refine LeO.ite ?_ ?_
      | refine LeO.bind ?_ (fun _ => ?_)
    · intro y0 y1 y2 y3 y4 y5 y6 y7 y8
      unfold impl_DecodeRevoke.l0
      repeat' first
      | (with_reducible exact ih0 _ _ _ _ _ _)
      | (with_reducible exact ih1 _ _ _ _ _ _ _ _ _)
      | (with_reducible exact impl_EncodeRevoke.mono _ _ _)
      | (with_reducible exact impl_num.mono _ _ _ _)
      | (with_reducible exact impl_parse.mono _ _ _)
      | (with_reducible exact LeO.refl _)
      | (with_reducible exact LeO.none _)
      | (with_reducible refine LeO.ite ?_ ?_)
      | (with_reducible refine LeO.bind ?_ (fun _ => ?_))
      | exact ih0 _ _ _ _ _ _
      | exact ih1 _ _ _ _ _ _ _ _ _
      | exact impl_EncodeRevoke.mono _ _ _
      | exact impl_num.mono _ _ _ _
      | exact impl_parse.mono _ _ _
      | exact LeO.none _
      | refine LeO.ite ?_ ?_
      | refine LeO.bind ?_ (fun _ => ?_)
theorem impl_DecodeRevoke.mono : ∀ a0 k, LeO (impl_DecodeRevoke.f k a0) (impl_DecodeRevoke.f (k + 1) a0) := by
  intro a0 k
  obtain ⟨ih0, ih1⟩ := impl_DecodeRevoke.mono_l k
  unfold impl_DecodeRevoke.f
  repeat' first
      | (with_reducible exact ih0 _ _ _ _ _ _)
      | (with_reducible exact ih1 _ _ _ _ _ _ _ _ _)
      | (with_reducible exact impl_EncodeRevoke.mono _ _ _)
      | (with_reducible exact impl_num.mono _ _ _ _)
      | (with_reducible exact impl_parse.mono _ _ _)
      | (with_reducible exact LeO.refl _)
      | (with_reducible exact LeO.none _)
      | (with_reducible refine LeO.ite ?_ ?_)
      | (with_reducible refine LeO.bind ?_ (fun _ => ?_))
      | exact ih0 _ _ _ _ _ _
      | exact ih1 _ _ _ _ _ _ _ _ _
      | exact impl_EncodeRevoke.mono _ _ _
      | exact impl_num.mono _ _ _ _
      | exact impl_parse.mono _ _ _
      | exact LeO.none _
      | refine LeO.ite ?_ ?_
      | refine LeO.bind ?_ (fun _ => ?_)
def impl_DecodeRevoke.T8 : Bool × List (List Nat × List Nat) := (true, [([], []), ([0], [0]), ([], []), ([], []), ([3], [3]), ([4], [4]), ([2, 5], [2, 5]), ([6], [6]), ([1, 7, 6], [1, 7]), ([0, 1, 2, 3, 4, 5, 6, 7, 8], []), ([9, 8, 8, 0, 1, 2, 3, 4, 5, 6, 7, 8], [8, 9])])
def impl_DecodeRevoke.B8 : List Nat := [0, 1, 0, 0, 8, 24, 60, 124, 255, 511, 1023]
theorem impl_DecodeRevoke.tab8 : rtab .any (opsOf Tryd.f12 8) = impl_DecodeRevoke.T8 := by kernel_rfl
theorem impl_DecodeRevoke.bits8 : waitsOk impl_DecodeRevoke.T8.2 impl_DecodeRevoke.B8 = true := by kernel_rfl
set_option maxHeartbeats 8000000 in
set_option maxRecDepth 100000 in
theorem impl_DecodeRevoke.calls {bE : Addr} (k : Nat) (A0 : Option Addr) (c0 : Nat) (l0 : List Int) (r1 : Bool) (r2 : Int) (r3 : List Int) (w : World) (hr0 : Kd.C (Kd.int .u8) w A0 l0.length l0) (hc0 : l0.length ≤ c0) (h : impl_DecodeRevoke.f k l0 = some (r1, r2, r3)) (hG0 : Erh.GlobE bE w) :
    Calls Tryd.prog 12 #[.slice A0 l0.length c0] w fun e w' => ∃ v2_ : Value, e = .returned (.agg #[.bool r1, .int .i64 r2, v2_]) ∧ Kd.R (Kd.int .i64) 2 w' w.heap.size (fun _ => True) v2_ r3 ∧ Below w.heap.size w w' := by
  have hu36 := Tryd.underlying36
  have hu54 := Tryd.underlying54
  have hu34 := Tryd.underlying34
  have HR0 := Aside0.mk hr0
  have HC0 := Aside0.mk hc0
  clear hr0 hc0
  have HB := Aside0.mk (Below.refl w.heap.size w)
  have H : ((impl_parse.f k l0 3).bind fun bt257 => ((impl_good.f bt257.2.2.2.2).bind fun t263 => (if t263 = true then (impl_DecodeRevoke.j0 k l0 (decide (bt257.2.1 > 26)) bt257.1 bt257.2.1 bt257.2.2.1 bt257.2.2.2.1) else (impl_DecodeRevoke.j0 k l0 true bt257.1 bt257.2.1 bt257.2.2.1 bt257.2.2.2.1)))) = some (r1, r2, r3) := h
  clear h
  replace H := Option.bind_eq_some_iff.mp H
  obtain ⟨⟨t257, t258, t259, t260, t261⟩, A20, H⟩ := H
  replace H : ((impl_good.f t261).bind fun t263 => (if t263 = true then (impl_DecodeRevoke.j0 k l0 (decide (t258 > 26)) t257 t258 t259 t260) else (impl_DecodeRevoke.j0 k l0 true t257 t258 t259 t260))) = some (r1, r2, r3) := H
  have A2 := Aside0.mk A20
  clear A20
  have HC3 := Aside0.mk H
  clear H
  go_enter Tryd.func12, Tryd.ntmps12
  go_upto_region 2 with (first | ((with_reducible refine gate_dst (N := 2) rfl ?_); refine box_event ?hg (N := 2) ?hd (cs := #[.bool false, .int .i64 0, .slice none 0 0]) (t := 36) ?hr ?_; (case hd => rfl); (case hg => rfl); (case hr => first | (go_simp; done) | (go_simp; rfl)); intro gb256 hg w4 hbox hb; have n0_ := Aside0.mk (below_step (by repeat (first | (with_reducible first | exact HB.out | apply below_alloc | apply pw_below_drewN | apply below_drew1) | exact HB.out)) hb); have n1_ := Aside0.mk (hbox); have n2_ := Aside0.mk ((by rw [hg]; exact (below_size (by repeat (first | (with_reducible first | exact HB.out | apply below_alloc | apply pw_below_drewN | apply below_drew1) | exact HB.out))) : w.heap.size ≤ gb256)); have n3_ := Aside0.mk ((by rw [hg]; exact (below_size (by repeat (first | (with_reducible first | exact HB.out | apply below_alloc | apply pw_below_drewN | apply below_drew1) | exact HB.out))) : w.heap.size ≤ gb256)); clear HB; have HB := n0_; have BK256 := n1_; have GW256 := n2_; have GE256 := n3_; clear n0_ n1_ n2_ n3_; clear hb hbox hg) | ((with_reducible refine gate_callee (f := 26) rfl ?_); refine goesL_ (some 9) rfl rfl Tryd.func26 (by kernel_rfl) rfl #[.slice A0 l0.length c0, .int .i64 3] rfl (by (try simp only [List.map_toArray, List.map_cons, List.map_nil]); first | done | rfl | (simp only [List.length_drop, List.length_take]; rfl)) ?_; (with_reducible refine (impl_parse.calls k _ _ l0 3 t257 t258 t259 t260 t261 _ ?side1 ?side2 A2.out (hG0.below (by repeat (first | (with_reducible first | exact HB.out | apply below_alloc | apply pw_below_drewN | apply below_drew1 | refine below_set ?_ GE256.out) | exact HB.out)))).mono ?_); (case side1 => repeat (first | exact (Kd.C_below HR0.out HB.out) | (with_reducible refine Kd.C_alloc ?_ _) | (with_reducible refine Kd.C_drewN ?_ _) | (with_reducible refine Kd.C_drew ?_))); (case side2 => exact HC0.out); rintro e w5 ⟨AV_, nV_, cV_, E_, rfl, hE_, hV_, hb⟩; have HE_ := Aside0.mk hE_; have HV_ := Aside0.mk hV_; clear hE_ hV_; refine ⟨_, rfl, ?_⟩; have n0_ := Aside0.mk (blk_below (g := gb256) (o := .cells #[.bool false, .int .i64 0, .slice none 0 0] 36 (0, 0)) (by (with_reducible repeat (first | refine blk_drewN ?_ _ | refine blk_drew ?_ | refine blk_alloc ?_ _)); exact BK256.out) hb); have n1_ := Aside0.mk (below_step (by repeat (first | (with_reducible first | exact HB.out | apply below_alloc | apply pw_below_drewN | apply below_drew1 | refine below_set ?_ GE256.out) | exact HB.out)) hb); clear BK256; clear HB; have BK256 := n0_; have HB := n1_; clear n0_ n1_; (try clear hb); (try clear hb2); (try clear hk); (try clear hi)) | ((with_reducible refine gate_dst (N := 3) rfl ?_); refine box_event ?hg (N := 3) ?hd (cs := #[.int .i64 0, .int .i64 0, .int .i64 0, .slice none 0 0]) (t := 54) ?hr ?_; (case hd => rfl); (case hg => rfl); (case hr => first | (go_simp; done) | (go_simp; rfl)); intro gb262 hg w6 hbox hb; have HE2_ := Aside0.mk (HE_.out.below hb); clear HE_; have n0_ := Aside0.mk (blk_below (g := gb256) (o := .cells #[.bool false, .int .i64 0, .slice none 0 0] 36 (0, 0)) (by (with_reducible repeat (first | refine blk_drewN ?_ _ | refine blk_drew ?_ | refine blk_alloc ?_ _)); exact BK256.out) hb); have n1_ := Aside0.mk (below_step (by repeat (first | (with_reducible first | exact HB.out | apply below_alloc | apply pw_below_drewN | apply below_drew1 | refine below_set ?_ GE256.out) | exact HB.out)) hb); have n2_ := Aside0.mk (hbox); have n3_ := Aside0.mk ((by rw [hg]; exact (below_size (by repeat (first | (with_reducible first | exact HB.out | apply below_alloc | apply pw_below_drewN | apply below_drew1 | refine below_set ?_ GE256.out) | exact HB.out))) : w.heap.size ≤ gb262)); have n4_ := Aside0.mk ((by rw [hg]; exact (below_size (by repeat (first | (with_reducible first | exact HB.out | apply below_alloc | apply pw_below_drewN | apply below_drew1 | refine below_set ?_ GE256.out) | exact HB.out))) : w.heap.size ≤ gb262)); have n5_ := Aside0.mk ((by rw [hg]; exact Nat.ne_of_lt (blk_lt (g := gb256) (o := .cells #[.bool false, .int .i64 0, .slice none 0 0] 36 (0, 0)) (by (with_reducible repeat (first | refine blk_drewN ?_ _ | refine blk_drew ?_ | refine blk_alloc ?_ _)); exact BK256.out)) : gb256 ≠ gb262)); have n6_ := Aside0.mk ((by rw [hg]; exact Nat.ne_of_gt (blk_lt (g := gb256) (o := .cells #[.bool false, .int .i64 0, .slice none 0 0] 36 (0, 0)) (by (with_reducible repeat (first | refine blk_drewN ?_ _ | refine blk_drew ?_ | refine blk_alloc ?_ _)); exact BK256.out)) : gb262 ≠ gb256)); clear BK256; clear HB; have BK256 := n0_; have HB := n1_; have BK262 := n2_; have GW262 := n3_; have GE262 := n4_; have NB256_262 := n5_; have NB262_256 := n6_; clear n0_ n1_ n2_ n3_ n4_ n5_ n6_; clear hb hbox hg; have hnb7 := NB262_256.out; have hnc7 := NB256_262.out; have hcz8_0 : w6.cell? ⟨gb262, 0, none⟩ = some (.int .i64 0) := (blk_cell BK262.out 0).trans rfl; have hcz8_1 : w6.cell? ⟨gb262, 1, none⟩ = some (.int .i64 0) := (blk_cell BK262.out 1).trans rfl; have hcz8_2 : w6.cell? ⟨gb262, 2, none⟩ = some (.int .i64 0) := (blk_cell BK262.out 2).trans rfl; have hcz8_3 : w6.cell? ⟨gb262, 3, none⟩ = some (.slice none 0 0) := (blk_cell BK262.out 3).trans rfl; have hfz8_0 := blk_frozen BK262.out 0; have hfz8_1 := blk_frozen BK262.out 1; have hfz8_2 := blk_frozen BK262.out 2; have hfz8_3 := blk_frozen BK262.out 3))
  (try simp only [Act.put, List.setIfInBounds_toArray, List.set_cons_zero, List.set_cons_succ])
  go_cut [20] (fun v20 wc => ∃ (kq : Nat) (x20_2 : Bool), v20 = .bool x20_2 ∧ Aside0 (impl_DecodeRevoke.j0 kq l0 x20_2 t257 t258 t259 t260 = some (r1, r2, r3)) ∧ Aside0 (kq ≤ k) ∧ Aside0 (wc.heap[gb256]? = some (.cells #[.bool false, .int .i64 0, (.slice none 0 0)] 36 (0, 0))) ∧ Aside0 (wc.heap[gb262]? = some (.cells #[.int .i64 t257, .int .i64 t258, .int .i64 t259, .slice AV_ nV_ cV_] 54 (0, 0))) ∧ Aside0 (Below w.heap.size w wc) ∧ Aside0 (x20_2 = false → t261 = 0))
  case first =>
    have H := HC3.out
    clear HC3
    replace H := Option.bind_eq_some_iff.mp H
    obtain ⟨t263, A90, H⟩ := H
    replace H : (if t263 = true then (impl_DecodeRevoke.j0 k l0 (decide (t258 > 26)) t257 t258 t259 t260) else (impl_DecodeRevoke.j0 k l0 true t257 t258 t259 t260)) = some (r1, r2, r3) := H
    have A9 := Aside0.mk A90
    clear A90
    by_cases c10 : t263 = true
    · subst c10
      have H1 : (impl_DecodeRevoke.j0 k l0 (decide (t258 > 26)) t257 t258 t259 t260) = some (r1, r2, r3) := by rw [if_pos rfl] at H; exact H
      clear H
      have H := H1
      clear H1
      have H' := Aside0.mk H
      clear H
      go_wp2_with (first | ((with_reducible refine gate_callee (f := 27) rfl ?_); refine goesL_ (some 13) rfl rfl Tryd.func27 (by kernel_rfl) rfl #[E_] rfl (by (try simp only [List.map_toArray, List.map_cons, List.map_nil]); first | done | rfl | (simp only [List.length_drop, List.length_take]; rfl)) ?_; (with_reducible refine (impl_good.calls t261 true _ A9.out (HE2_.out.set4 BK262.out (by decide) _ _ _ _) (hG0.below (by repeat (first | (with_reducible first | exact HB.out | apply below_alloc | apply pw_below_drewN | apply below_drew1 | refine below_set ?_ GE256.out | refine below_set ?_ GE262.out) | exact HB.out)))).mono ?_); rintro e w11 ⟨rfl, hb⟩; refine ⟨_, rfl, ?_⟩; have n0_ := Aside0.mk (blk_below (g := gb256) (o := .cells #[.bool false, .int .i64 0, .slice none 0 0] 36 (0, 0)) (by (with_reducible repeat (first | refine blk_drewN ?_ _ | refine blk_drew ?_ | refine blk_alloc ?_ _)); refine blk_far ?_ NB256_262.out _; (with_reducible repeat (first | refine blk_drewN ?_ _ | refine blk_drew ?_ | refine blk_alloc ?_ _)); refine blk_far ?_ NB256_262.out _; (with_reducible repeat (first | refine blk_drewN ?_ _ | refine blk_drew ?_ | refine blk_alloc ?_ _)); refine blk_far ?_ NB256_262.out _; (with_reducible repeat (first | refine blk_drewN ?_ _ | refine blk_drew ?_ | refine blk_alloc ?_ _)); refine blk_far ?_ NB256_262.out _; (with_reducible repeat (first | refine blk_drewN ?_ _ | refine blk_drew ?_ | refine blk_alloc ?_ _)); exact BK256.out) hb); have n1_ := Aside0.mk (blk_below (g := gb262) (o := .cells #[.int .i64 t257, .int .i64 t258, .int .i64 t259, .slice AV_ nV_ cV_] 54 (0, 0)) (by (with_reducible repeat (first | refine blk_drewN ?_ _ | refine blk_drew ?_ | refine blk_alloc ?_ _)); refine blk_put (cs := #[.int .i64 t257, .int .i64 t258, .int .i64 t259, .slice none 0 0]) ?_ 3 _ rfl; (with_reducible repeat (first | refine blk_drewN ?_ _ | refine blk_drew ?_ | refine blk_alloc ?_ _)); refine blk_put (cs := #[.int .i64 t257, .int .i64 t258, .int .i64 0, .slice none 0 0]) ?_ 2 _ rfl; (with_reducible repeat (first | refine blk_drewN ?_ _ | refine blk_drew ?_ | refine blk_alloc ?_ _)); refine blk_put (cs := #[.int .i64 t257, .int .i64 0, .int .i64 0, .slice none 0 0]) ?_ 1 _ rfl; (with_reducible repeat (first | refine blk_drewN ?_ _ | refine blk_drew ?_ | refine blk_alloc ?_ _)); refine blk_put (cs := #[.int .i64 0, .int .i64 0, .int .i64 0, .slice none 0 0]) ?_ 0 _ rfl; (with_reducible repeat (first | refine blk_drewN ?_ _ | refine blk_drew ?_ | refine blk_alloc ?_ _)); exact BK262.out) hb); have n2_ := Aside0.mk (below_step (by repeat (first | (with_reducible first | exact HB.out | apply below_alloc | apply pw_below_drewN | apply below_drew1 | refine below_set ?_ GE256.out | refine below_set ?_ GE262.out) | exact HB.out)) hb); clear BK256; clear BK262; clear HB; have BK256 := n0_; have BK262 := n1_; have HB := n2_; clear n0_ n1_ n2_; (try clear hb); (try clear hb2); (try clear hk); (try clear hi); have hnb12 := NB262_256.out; have hnc12 := NB256_262.out; have hcz13_0 : w11.cell? ⟨gb262, 0, none⟩ = some (.int .i64 t257) := (blk_cell BK262.out 0).trans rfl; have hcz13_1 : w11.cell? ⟨gb262, 1, none⟩ = some (.int .i64 t258) := (blk_cell BK262.out 1).trans rfl; have hcz13_2 : w11.cell? ⟨gb262, 2, none⟩ = some (.int .i64 t259) := (blk_cell BK262.out 2).trans rfl; have hcz13_3 : w11.cell? ⟨gb262, 3, none⟩ = some (.slice AV_ nV_ cV_) := (blk_cell BK262.out 3).trans rfl; have hfz13_0 := blk_frozen BK262.out 0; have hfz13_1 := blk_frozen BK262.out 1; have hfz13_2 := blk_frozen BK262.out 2; have hfz13_3 := blk_frozen BK262.out 3))
      go_meet
      case rel => exact ⟨_, (decide (t258 > 26)), (by first | rfl | (simp; done) | (simp [*]; done)), H', ⟨by first | omega | exact Nat.le_refl _⟩, ⟨by (with_reducible repeat (first | refine blk_drewN ?_ _ | refine blk_drew ?_ | refine blk_alloc ?_ _)); exact BK256.out⟩, ⟨by (with_reducible repeat (first | refine blk_drewN ?_ _ | refine blk_drew ?_ | refine blk_alloc ?_ _)); exact BK262.out⟩, ⟨by repeat (first | (with_reducible first | exact HB.out | apply below_alloc | apply pw_below_drewN | apply below_drew1 | refine below_set ?_ GE256.out | refine below_set ?_ GE262.out) | exact HB.out)⟩, ⟨fun h_ => by first | exact good_zero A9.out | (cases h_)⟩⟩
    · replace c10 := Bool.eq_false_iff.mpr c10
      subst c10
      have H1 : (impl_DecodeRevoke.j0 k l0 true t257 t258 t259 t260) = some (r1, r2, r3) := by rw [if_neg (show ¬ (false = true) by decide)] at H; exact H
      clear H
      have H := H1
      clear H1
      have H' := Aside0.mk H
      clear H
      go_wp2_with (first | ((with_reducible refine gate_callee (f := 27) rfl ?_); refine goesL_ (some 13) rfl rfl Tryd.func27 (by kernel_rfl) rfl #[E_] rfl (by (try simp only [List.map_toArray, List.map_cons, List.map_nil]); first | done | rfl | (simp only [List.length_drop, List.length_take]; rfl)) ?_; (with_reducible refine (impl_good.calls t261 false _ A9.out (HE2_.out.set4 BK262.out (by decide) _ _ _ _) (hG0.below (by repeat (first | (with_reducible first | exact HB.out | apply below_alloc | apply pw_below_drewN | apply below_drew1 | refine below_set ?_ GE256.out | refine below_set ?_ GE262.out) | exact HB.out)))).mono ?_); rintro e w14 ⟨rfl, hb⟩; refine ⟨_, rfl, ?_⟩; have n0_ := Aside0.mk (blk_below (g := gb256) (o := .cells #[.bool false, .int .i64 0, .slice none 0 0] 36 (0, 0)) (by (with_reducible repeat (first | refine blk_drewN ?_ _ | refine blk_drew ?_ | refine blk_alloc ?_ _)); refine blk_far ?_ NB256_262.out _; (with_reducible repeat (first | refine blk_drewN ?_ _ | refine blk_drew ?_ | refine blk_alloc ?_ _)); refine blk_far ?_ NB256_262.out _; (with_reducible repeat (first | refine blk_drewN ?_ _ | refine blk_drew ?_ | refine blk_alloc ?_ _)); refine blk_far ?_ NB256_262.out _; (with_reducible repeat (first | refine blk_drewN ?_ _ | refine blk_drew ?_ | refine blk_alloc ?_ _)); refine blk_far ?_ NB256_262.out _; (with_reducible repeat (first | refine blk_drewN ?_ _ | refine blk_drew ?_ | refine blk_alloc ?_ _)); exact BK256.out) hb); have n1_ := Aside0.mk (blk_below (g := gb262) (o := .cells #[.int .i64 t257, .int .i64 t258, .int .i64 t259, .slice AV_ nV_ cV_] 54 (0, 0)) (by (with_reducible repeat (first | refine blk_drewN ?_ _ | refine blk_drew ?_ | refine blk_alloc ?_ _)); refine blk_put (cs := #[.int .i64 t257, .int .i64 t258, .int .i64 t259, .slice none 0 0]) ?_ 3 _ rfl; (with_reducible repeat (first | refine blk_drewN ?_ _ | refine blk_drew ?_ | refine blk_alloc ?_ _)); refine blk_put (cs := #[.int .i64 t257, .int .i64 t258, .int .i64 0, .slice none 0 0]) ?_ 2 _ rfl; (with_reducible repeat (first | refine blk_drewN ?_ _ | refine blk_drew ?_ | refine blk_alloc ?_ _)); refine blk_put (cs := #[.int .i64 t257, .int .i64 0, .int .i64 0, .slice none 0 0]) ?_ 1 _ rfl; (with_reducible repeat (first | refine blk_drewN ?_ _ | refine blk_drew ?_ | refine blk_alloc ?_ _)); refine blk_put (cs := #[.int .i64 0, .int .i64 0, .int .i64 0, .slice none 0 0]) ?_ 0 _ rfl; (with_reducible repeat (first | refine blk_drewN ?_ _ | refine blk_drew ?_ | refine blk_alloc ?_ _)); exact BK262.out) hb); have n2_ := Aside0.mk (below_step (by repeat (first | (with_reducible first | exact HB.out | apply below_alloc | apply pw_below_drewN | apply below_drew1 | refine below_set ?_ GE256.out | refine below_set ?_ GE262.out) | exact HB.out)) hb); clear BK256; clear BK262; clear HB; have BK256 := n0_; have BK262 := n1_; have HB := n2_; clear n0_ n1_ n2_; (try clear hb); (try clear hb2); (try clear hk); (try clear hi)))
      go_meet
      case rel => exact ⟨_, (true), (by first | rfl | (simp; done) | (simp [*]; done)), H', ⟨by first | omega | exact Nat.le_refl _⟩, ⟨by (with_reducible repeat (first | refine blk_drewN ?_ _ | refine blk_drew ?_ | refine blk_alloc ?_ _)); exact BK256.out⟩, ⟨by (with_reducible repeat (first | refine blk_drewN ?_ _ | refine blk_drew ?_ | refine blk_alloc ?_ _)); exact BK262.out⟩, ⟨by repeat (first | (with_reducible first | exact HB.out | apply below_alloc | apply pw_below_drewN | apply below_drew1 | refine below_set ?_ GE256.out | refine below_set ?_ GE262.out) | exact HB.out)⟩, ⟨fun h_ => by first | exact good_zero A9.out | (cases h_)⟩⟩
  case rest =>
    clear HC3
    try clear c1
    try clear c2
    try clear p2
    try clear c7
    try clear c10
    try clear c12
    try clear hcz13_0
    try clear hcz13_1
    try clear hcz13_2
    try clear hcz13_3
    try clear hcz8_0
    try clear hcz8_1
    try clear hcz8_2
    try clear hcz8_3
    try clear hfz13_0
    try clear hfz13_1
    try clear hfz13_2
    try clear hfz13_3
    try clear hfz8_0
    try clear hfz8_1
    try clear hfz8_2
    try clear hfz8_3
    obtain ⟨kq, x20_2, rfl, HA, HJ2, BK256, BK262, HB, HZ_⟩ := hcut
    cases kq with
    | zero => exact absurd HA.out (by simp [impl_DecodeRevoke.j0])
    | succ kj2 =>
      have H := HA.out
      clear HA
      simp only [impl_DecodeRevoke.j0] at H
      by_cases c15 : x20_2 = true
      · subst c15
        have H1 : (some (false, 0, ([] : List Int))) = some (r1, r2, r3) := by rw [if_pos rfl] at H; exact H
        clear H
        have H := H1
        clear H1
        simp only [Option.some.injEq, Prod.mk.injEq] at H
        obtain ⟨rfl, rfl, rfl⟩ := H
        have hnb16 := NB256_262.out
        have hnc16 := NB262_256.out
        have hcz17_0 : wc.cell? ⟨gb256, 0, none⟩ = some (.bool false) := (blk_cell BK256.out 0).trans rfl
        have hcz17_1 : wc.cell? ⟨gb256, 1, none⟩ = some (.int .i64 0) := (blk_cell BK256.out 1).trans rfl
        have hcz17_2 : wc.cell? ⟨gb256, 2, none⟩ = some (.slice none 0 0) := (blk_cell BK256.out 2).trans rfl
        have hfz17_0 := blk_frozen BK256.out 0
        have hfz17_1 := blk_frozen BK256.out 1
        have hfz17_2 := blk_frozen BK256.out 2
        go_wp2
        refine bodyPost_ret (results_cell_row rfl _ _ gb256 36 #[.bool false, .int .i64 0, .slice none 0 0] (0, 0) _ rfl (by (with_reducible repeat (first | refine blk_drewN ?_ _ | refine blk_drew ?_ | refine blk_alloc ?_ _)); refine blk_put (cs := #[.bool false, .int .i64 0, .slice none 0 0]) ?_ 2 _ rfl; (with_reducible repeat (first | refine blk_drewN ?_ _ | refine blk_drew ?_ | refine blk_alloc ?_ _)); refine blk_put (cs := #[.bool false, .int .i64 0, .slice none 0 0]) ?_ 1 _ rfl; (with_reducible repeat (first | refine blk_drewN ?_ _ | refine blk_drew ?_ | refine blk_alloc ?_ _)); refine blk_put (cs := #[.bool false, .int .i64 0, .slice none 0 0]) ?_ 0 _ rfl; (with_reducible repeat (first | refine blk_drewN ?_ _ | refine blk_drew ?_ | refine blk_alloc ?_ _)); exact BK256.out) Tryd.underlying36 rfl (by kernel_rfl)) rfl ?_
        exact ⟨_, by first | rfl | (simp [errW_none, errW_some] <;> rfl) | (simp [*, errW_none, errW_some] <;> rfl), by first | exact Kd.R_nil _ _ _ _ _ | exact Kd.N_nil _ _ _ _ _ | exact Kd.V_nil _ _ _ _ _ | exact Kd.Q_nil _ _ _ _ _ | exact Kd.S_nil _ _ _ _ _, by repeat (first | (with_reducible first | exact HB.out | apply below_alloc | apply pw_below_drewN | apply below_drew1 | refine below_set ?_ GE256.out | refine below_set ?_ GE262.out) | exact HB.out)⟩
      · replace c15 := Bool.eq_false_iff.mpr c15
        subst c15
        have H1 : (impl_DecodeRevoke.l0 kj2 l0 t258 0 t257 t258 t259 t260 t259 ([] : List Int)) = some (r1, r2, r3) := by rw [if_neg (show ¬ (false = true) by decide)] at H; exact H
        clear H
        have H := H1
        clear H1
        have H' := Aside0.mk H
        clear H
        have hnb18 := NB262_256.out
        have hnc18 := NB256_262.out
        have hcz19_0 : wc.cell? ⟨gb262, 0, none⟩ = some (.int .i64 t257) := (blk_cell BK262.out 0).trans rfl
        have hcz19_1 : wc.cell? ⟨gb262, 1, none⟩ = some (.int .i64 t258) := (blk_cell BK262.out 1).trans rfl
        have hcz19_2 : wc.cell? ⟨gb262, 2, none⟩ = some (.int .i64 t259) := (blk_cell BK262.out 2).trans rfl
        have hcz19_3 : wc.cell? ⟨gb262, 3, none⟩ = some (.slice AV_ nV_ cV_) := (blk_cell BK262.out 3).trans rfl
        have hfz19_0 := blk_frozen BK262.out 0
        have hfz19_1 := blk_frozen BK262.out 1
        have hfz19_2 := blk_frozen BK262.out 2
        have hfz19_3 := blk_frozen BK262.out 3
        go_wp2_with (first | ((with_reducible refine gate_dst (N := 5) rfl ?_); refine box_event ?hg (N := 5) ?hd (cs := #[.int .i64 0, .slice none 0 0]) (t := 34) ?hr ?_; (case hd => rfl); (case hg => rfl); (case hr => first | (go_simp; done) | (go_simp; rfl)); intro gb264 hg w20 hbox hb; have n0_ := Aside0.mk (blk_below (g := gb256) (o := .cells #[.bool false, .int .i64 0, .slice none 0 0] 36 (0, 0)) (by (with_reducible repeat (first | refine blk_drewN ?_ _ | refine blk_drew ?_ | refine blk_alloc ?_ _)); exact BK256.out) hb); have n1_ := Aside0.mk (blk_below (g := gb262) (o := .cells #[.int .i64 t257, .int .i64 t258, .int .i64 t259, .slice AV_ nV_ cV_] 54 (0, 0)) (by (with_reducible repeat (first | refine blk_drewN ?_ _ | refine blk_drew ?_ | refine blk_alloc ?_ _)); exact BK262.out) hb); have n2_ := Aside0.mk (below_step (by repeat (first | (with_reducible first | exact HB.out | apply below_alloc | apply pw_below_drewN | apply below_drew1 | refine below_set ?_ GE256.out | refine below_set ?_ GE262.out) | exact HB.out)) hb); have n3_ := Aside0.mk (hbox); have n4_ := Aside0.mk ((by rw [hg]; exact (below_size (by repeat (first | (with_reducible first | exact HB.out | apply below_alloc | apply pw_below_drewN | apply below_drew1 | refine below_set ?_ GE256.out | refine below_set ?_ GE262.out) | exact HB.out))) : w.heap.size ≤ gb264)); have n5_ := Aside0.mk ((by rw [hg]; exact (below_size (by repeat (first | (with_reducible first | exact HB.out | apply below_alloc | apply pw_below_drewN | apply below_drew1 | refine below_set ?_ GE256.out | refine below_set ?_ GE262.out) | exact HB.out))) : w.heap.size ≤ gb264)); have n6_ := Aside0.mk ((by rw [hg]; exact Nat.ne_of_lt (blk_lt (g := gb256) (o := .cells #[.bool false, .int .i64 0, .slice none 0 0] 36 (0, 0)) (by (with_reducible repeat (first | refine blk_drewN ?_ _ | refine blk_drew ?_ | refine blk_alloc ?_ _)); exact BK256.out)) : gb256 ≠ gb264)); have n7_ := Aside0.mk ((by rw [hg]; exact Nat.ne_of_gt (blk_lt (g := gb256) (o := .cells #[.bool false, .int .i64 0, .slice none 0 0] 36 (0, 0)) (by (with_reducible repeat (first | refine blk_drewN ?_ _ | refine blk_drew ?_ | refine blk_alloc ?_ _)); exact BK256.out)) : gb264 ≠ gb256)); have n8_ := Aside0.mk ((by rw [hg]; exact Nat.ne_of_lt (blk_lt (g := gb262) (o := .cells #[.int .i64 t257, .int .i64 t258, .int .i64 t259, .slice AV_ nV_ cV_] 54 (0, 0)) (by (with_reducible repeat (first | refine blk_drewN ?_ _ | refine blk_drew ?_ | refine blk_alloc ?_ _)); exact BK262.out)) : gb262 ≠ gb264)); have n9_ := Aside0.mk ((by rw [hg]; exact Nat.ne_of_gt (blk_lt (g := gb262) (o := .cells #[.int .i64 t257, .int .i64 t258, .int .i64 t259, .slice AV_ nV_ cV_] 54 (0, 0)) (by (with_reducible repeat (first | refine blk_drewN ?_ _ | refine blk_drew ?_ | refine blk_alloc ?_ _)); exact BK262.out)) : gb264 ≠ gb262)); clear BK256; clear BK262; clear HB; have BK256 := n0_; have BK262 := n1_; have HB := n2_; have BK264 := n3_; have GW264 := n4_; have GE264 := n5_; have NB256_264 := n6_; have NB264_256 := n7_; have NB262_264 := n8_; have NB264_262 := n9_; clear n0_ n1_ n2_ n3_ n4_ n5_ n6_ n7_ n8_ n9_; clear hb hbox hg; have hnb21 := NB264_256.out; have hnc21 := NB256_264.out; have hnb22 := NB264_262.out; have hnc22 := NB262_264.out; have hcz23_0 : w20.cell? ⟨gb264, 0, none⟩ = some (.int .i64 0) := (blk_cell BK264.out 0).trans rfl; have hcz23_1 : w20.cell? ⟨gb264, 1, none⟩ = some (.slice none 0 0) := (blk_cell BK264.out 1).trans rfl; have hfz23_0 := blk_frozen BK264.out 0; have hfz23_1 := blk_frozen BK264.out 1; have hcz24_0 : w20.cell? ⟨gb262, 0, none⟩ = some (.int .i64 t257) := (blk_cell BK262.out 0).trans rfl; have hcz24_1 : w20.cell? ⟨gb262, 1, none⟩ = some (.int .i64 t258) := (blk_cell BK262.out 1).trans rfl; have hcz24_2 : w20.cell? ⟨gb262, 2, none⟩ = some (.int .i64 t259) := (blk_cell BK262.out 2).trans rfl; have hcz24_3 : w20.cell? ⟨gb262, 3, none⟩ = some (.slice AV_ nV_ cV_) := (blk_cell BK262.out 3).trans rfl; have hfz24_0 := blk_frozen BK262.out 0; have hfz24_1 := blk_frozen BK262.out 1; have hfz24_2 := blk_frozen BK262.out 2; have hfz24_3 := blk_frozen BK262.out 3))
        go_loopg [29] kj2 (fun kq v29 w' => ∃ (x29_2 : Int) (x265001_2 : List Int) (u265001 : Value), v29 = .int .i64 x29_2 ∧ Aside0 (impl_DecodeRevoke.l0 kq l0 t258 x29_2 t257 t258 t259 t260 t259 x265001_2 = some (r1, r2, r3)) ∧ Aside0 (kq ≤ kj2) ∧ Aside0 (Kd.R (Kd.int .i64) 2 w' w.heap.size (fun _ => True) u265001 x265001_2) ∧ Aside0 (w'.heap[gb256]? = some (.cells #[.bool false, .int .i64 0, (.slice none 0 0)] 36 (0, 0))) ∧ Aside0 (w'.heap[gb262]? = some (.cells #[.int .i64 t257, .int .i64 t258, .int .i64 t259, .slice AV_ nV_ cV_] 54 (0, 0))) ∧ Aside0 (w'.heap[gb264]? = some (.cells #[.int .i64 t259, u265001] 34 (0, 0))) ∧ Aside0 (Below w.heap.size w w'))
        case atStart => exact ⟨(0), (([] : List Int)), (.slice none 0 0), (by first | rfl | (simp; done) | (simp [*]; done)), H', ⟨Nat.le_refl _⟩, ⟨by first | exact Kd.R_nil _ _ _ _ _ | exact Kd.N_nil _ _ _ _ _ | exact Kd.V_nil _ _ _ _ _ | exact Kd.Q_nil _ _ _ _ _ | exact Kd.S_nil _ _ _ _ _⟩, ⟨by (with_reducible repeat (first | refine blk_drewN ?_ _ | refine blk_drew ?_ | refine blk_alloc ?_ _)); refine blk_far ?_ NB256_264.out _; (with_reducible repeat (first | refine blk_drewN ?_ _ | refine blk_drew ?_ | refine blk_alloc ?_ _)); refine blk_far ?_ NB256_264.out _; (with_reducible repeat (first | refine blk_drewN ?_ _ | refine blk_drew ?_ | refine blk_alloc ?_ _)); exact BK256.out⟩, ⟨by (with_reducible repeat (first | refine blk_drewN ?_ _ | refine blk_drew ?_ | refine blk_alloc ?_ _)); refine blk_far ?_ NB262_264.out _; (with_reducible repeat (first | refine blk_drewN ?_ _ | refine blk_drew ?_ | refine blk_alloc ?_ _)); refine blk_far ?_ NB262_264.out _; (with_reducible repeat (first | refine blk_drewN ?_ _ | refine blk_drew ?_ | refine blk_alloc ?_ _)); exact BK262.out⟩, ⟨by (with_reducible repeat (first | refine blk_drewN ?_ _ | refine blk_drew ?_ | refine blk_alloc ?_ _)); refine blk_put (cs := #[.int .i64 t259, .slice none 0 0]) ?_ 1 _ rfl; (with_reducible repeat (first | refine blk_drewN ?_ _ | refine blk_drew ?_ | refine blk_alloc ?_ _)); refine blk_put (cs := #[.int .i64 0, .slice none 0 0]) ?_ 0 _ rfl; (with_reducible repeat (first | refine blk_drewN ?_ _ | refine blk_drew ?_ | refine blk_alloc ?_ _)); exact BK264.out⟩, ⟨by repeat (first | (with_reducible first | exact HB.out | apply below_alloc | apply pw_below_drewN | apply below_drew1 | refine below_set ?_ GE256.out | refine below_set ?_ GE262.out | refine below_set ?_ GE264.out) | exact HB.out)⟩⟩
        case round =>
          clear H'
          try clear c1
          try clear c2
          try clear p2
          try clear c7
          try clear c10
          try clear c12
          try clear c15
          try clear c16
          try clear c18
          try clear c21
          try clear c22
          try clear hcz13_0
          try clear hcz13_1
          try clear hcz13_2
          try clear hcz13_3
          try clear hcz17_0
          try clear hcz17_1
          try clear hcz17_2
          try clear hcz19_0
          try clear hcz19_1
          try clear hcz19_2
          try clear hcz19_3
          try clear hcz23_0
          try clear hcz23_1
          try clear hcz24_0
          try clear hcz24_1
          try clear hcz24_2
          try clear hcz24_3
          try clear hcz8_0
          try clear hcz8_1
          try clear hcz8_2
          try clear hcz8_3
          try clear hfz13_0
          try clear hfz13_1
          try clear hfz13_2
          try clear hfz13_3
          try clear hfz17_0
          try clear hfz17_1
          try clear hfz17_2
          try clear hfz19_0
          try clear hfz19_1
          try clear hfz19_2
          try clear hfz19_3
          try clear hfz23_0
          try clear hfz23_1
          try clear hfz24_0
          try clear hfz24_1
          try clear hfz24_2
          try clear hfz24_3
          try clear hfz8_0
          try clear hfz8_1
          try clear hfz8_2
          try clear hfz8_3
          try clear p2
          obtain ⟨x29_2, x265001_2, u265001, rfl, HA, HK2, HO_265001, BK256, BK262, BK264, HB⟩ := hrel
          cases gk with
          | zero => exact absurd HA.out (by simp [impl_DecodeRevoke.l0])
          | succ k2 =>
            have H := HA.out
            clear HA
            simp only [impl_DecodeRevoke.l0] at H
            by_cases c25 : x29_2 < t258
            · rw [if_pos c25] at H
              have c25b0 : decide (x29_2 < t258) = true := decide_eq_true c25
              clear c25
              replace H := Option.bind_eq_some_iff.mp H
              obtain ⟨t265, A260, H⟩ := H
              replace H : (if x265001_2.length < 17592186044416 then (impl_DecodeRevoke.l0 k2 l0 t258 (wrap64 (x29_2 + 1)) t257 t258 t259 t260 t259 (x265001_2 ++ [t265])) else (none)) = some (r1, r2, r3) := H
              have A26 := Aside0.mk A260
              clear A260
              by_cases c27 : x265001_2.length < 17592186044416
              · rw [if_pos c27] at H
                have LMc27 := Aside0.mk c27
                clear c27
                obtain ⟨y266, hy266⟩ : ∃ y_ : List Int, y_ = (x265001_2 ++ [t265]) := ⟨_, rfl⟩
                replace H : (impl_DecodeRevoke.l0 k2 l0 t258 (wrap64 (x29_2 + 1)) t257 t258 t259 t260 t259 y266) = some (r1, r2, r3) := by first | (rw [hy266]; with_reducible exact H) | (have H2_ := (Option.bind_some _ _).symm.trans H; rw [hy266]; with_reducible exact H2_) | (have H2_ := (Option.bind_some _ _).symm.trans H; with_reducible exact H2_) | with_reducible exact H | (rw [hy266]; exact H) | exact H
                have Ny266 := Aside0.mk hy266
                clear hy266
                have H' := Aside0.mk H
                clear H
                try go_wp2
                have n0_ := Aside0.mk (Kd.R_drew HO_265001.out)
                have n1_ := Aside0.mk (blk_drew BK256.out)
                have n2_ := Aside0.mk (blk_drew BK262.out)
                have n3_ := Aside0.mk (blk_drew BK264.out)
                have n4_ := Aside0.mk (below_drew1 HB.out)
                clear HO_265001
                clear BK256
                clear BK262
                clear BK264
                clear HB
                have HO_265001 := n0_
                have BK256 := n1_
                have BK262 := n2_
                have BK264 := n3_
                have HB := n4_
                clear n0_ n1_ n2_ n3_ n4_
                refine start_ (n := 11) (S := fun w' => w'.cell? ⟨gb264, 0, none⟩ = some (.int .i64 t259) ∧ w'.cell? ⟨gb264, 1, none⟩ = some (u265001)) (ds := [10]) #[false, false, false, false, false, false, false, false, false, false, false] (by kernel_rfl) rfl rfl ⟨(blk_cell BK264.out 0).trans rfl, (blk_cell BK264.out 1).trans rfl⟩ (fun hHeld => ?_); refine with_tabW impl_DecodeRevoke.tab8 impl_DecodeRevoke.bits8 (fun HT_ HW_ => ?_)
                generalize wr.drew = w28 at HO_265001 BK256 BK262 BK264 HB hHeld ⊢
                refine pure_ (i := 0) (N := some 32) (v := ?_) (a' := ?_) #[true, false, false, false, false, false, false, false, false, false, false] rfl rfl (any_of HT_.out (by kernel_rfl)) (fun _ _ _ h => h) (Or.inl ⟨by rfl, ?_⟩) ?_ ?_
                rotate_left
                · intro w'
                  go_simp
                  with_reducible rfl
                rotate_left
                · simp only [Act.put, List.setIfInBounds_toArray, List.set_cons_zero, List.set_cons_succ, i64_w, i32_w]
                  rfl
                refine pure_ (i := 2) (N := some 34) (v := ?_) (a' := ?_) #[true, false, true, false, false, false, false, false, false, false, false] rfl rfl (any_of HT_.out (by kernel_rfl)) (fun _ _ _ h => h) (Or.inl ⟨by rfl, ?_⟩) ?_ ?_
                rotate_left
                · intro w'
                  go_simp
                  with_reducible rfl
                rotate_left
                · simp only [Act.put, List.setIfInBounds_toArray, List.set_cons_zero, List.set_cons_succ, i64_w, i32_w]
                  rfl
                refine pure_ (i := 3) (N := some 35) (v := ?_) (a' := ?_) #[true, false, true, true, false, false, false, false, false, false, false] rfl rfl (any_of HT_.out (by kernel_rfl)) (fun _ _ _ h => h) (Or.inl ⟨by rfl, ?_⟩) ?_ ?_
                rotate_left
                · intro w'
                  go_simp
                  with_reducible rfl
                rotate_left
                · simp only [Act.put, List.setIfInBounds_toArray, List.set_cons_zero, List.set_cons_succ, i64_w, i32_w]
                  rfl
                refine pure_ (i := 4) (N := some 36) (v := ?_) (a' := ?_) #[true, false, true, true, true, false, false, false, false, false, false] rfl rfl (any_of HT_.out (by kernel_rfl)) (fun _ _ _ h => h) (Or.inl ⟨by rfl, ?_⟩) ?_ ?_
                rotate_left
                · intro w'
                  go_simp
                  with_reducible rfl
                rotate_left
                · simp only [Act.put, List.setIfInBounds_toArray, List.set_cons_zero, List.set_cons_succ, i64_w, i32_w]
                  rfl
                refine pure_ (i := 5) (N := some 37) (v := ?_) (a' := ?_) #[true, false, true, true, true, true, false, false, false, false, false] rfl rfl (any_of HT_.out (by kernel_rfl)) (fun _ _ _ h => h) (Or.inl ⟨by rfl, ?_⟩) ?_ ?_
                rotate_left
                · intro w'
                  go_simp
                  with_reducible rfl
                rotate_left
                · simp only [Act.put, List.setIfInBounds_toArray, List.set_cons_zero, List.set_cons_succ, i64_w, i32_w]
                  rfl
                refine take_ (i := 1) (N := some 33) (v := ?_) (a' := ?_) #[true, true, true, true, true, true, false, false, false, false, false] rfl rfl (take_ofW HT_.out HW_.out (by kernel_rfl)) (fun _ _ _ h => h) (Or.inl ⟨by rfl, ?_⟩) hHeld ?_ ?_
                rotate_left
                · rintro w' ⟨s0, s1⟩
                  go_simp
                  with_reducible rfl
                rotate_left
                · simp only [Act.put, List.setIfInBounds_toArray, List.set_cons_zero, List.set_cons_succ, i64_w, i32_w]
                  rfl
                refine one_ (i := 6) (N := some 38) #[true, true, true, true, true, true, true, false, false, false, false] rfl rfl (one_of HT_.out (by kernel_rfl)) (by decide) (fun K hK => ?_)
                refine goes_ Tryd.func28 (by kernel_rfl) rfl #[.slice A0 l0.length c0, .int .i64 (wrap64 (12 + (wrap64 (2 * x29_2)))), .int .i64 2] (by rfl) rfl rfl (by (try simp only [List.map_toArray, List.map_cons, List.map_nil]); first | done | rfl | (simp only [List.length_drop, List.length_take]; rfl)) ?_
                with_reducible refine (impl_num.calls k2 _ _ l0 (wrap64 (12 + (wrap64 (2 * x29_2)))) 2 t265 _ ?side1 ?side2 A26.out).mono ?_
                (case side1 => repeat (first | exact (Kd.C_below HR0.out HB.out) | (with_reducible refine Kd.C_alloc ?_ _) | (with_reducible refine Kd.C_drewN ?_ _) | (with_reducible refine Kd.C_drew ?_)))
                (case side2 => exact HC0.out)
                rintro e w' ⟨rfl, ⟨nd, rfl⟩⟩
                refine ⟨_, rfl, ?_⟩
                refine hK.out _ _ ⟨(blk_cell BK264.out 0).trans rfl, (blk_cell BK264.out 1).trans rfl⟩ (fun hHeld => ?_)
                clear hK K
                refine norm_ (a' := ?_) ?_ ?_
                rotate_left
                · show Act.put _ (some 38) _ = _
                  simp only [Act.put, List.setIfInBounds_toArray, List.set_cons_zero, List.set_cons_succ, i64_w, i32_w]
                  rfl
                refine one_ (i := 7) (N := some 39) #[true, true, true, true, true, true, true, true, false, false, false] rfl rfl (one_of HT_.out (by kernel_rfl)) (by decide) (fun K hK => ?_)
                refine value_ (w1 := ?_) (v := ?_) (by rfl) rfl ?_ ?_
                rotate_left 2
                · go_simp
                  constructor
                  · rfl
                  · rfl
                refine hK.out _ _ ⟨(blk_cell (blk_alloc BK264.out _) 0).trans rfl, (blk_cell (blk_alloc BK264.out _) 1).trans rfl⟩ (fun hHeld => ?_)
                clear hK K
                refine norm_ (a' := ?_) ?_ ?_
                rotate_left
                · show Act.put _ (some 39) _ = _
                  simp only [Act.put, List.setIfInBounds_toArray, List.set_cons_zero, List.set_cons_succ, i64_w, i32_w]
                  rfl
                refine one_ (i := 8) (N := some 40) #[true, true, true, true, true, true, true, true, true, false, false] rfl rfl (one_of HT_.out (by kernel_rfl)) (by decide) (fun K hK => ?_)
                refine Kd.R_append_step (Kd.int .i64) (w0 := w) w.heap.size (by rfl) (.tmp 33) (.tmp 39) 32 2 (.int .i64 0) 8 rfl Tryd.underlying32 info2 rfl (by decide) (by omega) u265001 x265001_2 t265 [.int .i64 t265] (fun _ => True) (fun _ => False) rfl rfl ?aP (fun _ hk => hk.elim) ?aF ?aO ?aB ?aS ?aL ?_
                (case aP => exact rfl)
                (case aB => exact (by repeat (first | (with_reducible first | exact HB.out | apply below_alloc | apply pw_below_drewN | apply below_drew1 | refine below_set ?_ GE256.out | refine below_set ?_ GE262.out | refine below_set ?_ GE264.out) | exact HB.out)))
                (case aF => exact (fun _ _ => trivial))
                (case aO => exact (by (with_reducible repeat (first | apply Kd.R_alloc | apply Kd.R_drewN | apply Kd.R_drew)); exact HO_265001.out))
                (case aS => exact (below_size (by repeat (first | (with_reducible first | exact HB.out | apply below_alloc | apply pw_below_drewN | apply below_drew1 | refine below_set ?_ GE256.out | refine below_set ?_ GE262.out | refine below_set ?_ GE264.out) | exact HB.out))))
                (case aL => have := LMc27.out; omega)
                intro v267 w29 ho hb hg hat
                rw [← Ny266.out] at ho
                have n0_ := Aside0.mk (blk_grown (g := gb256) (o := .cells #[.bool false, .int .i64 0, .slice none 0 0] 36 (0, 0)) (by (with_reducible repeat (first | refine blk_drewN ?_ _ | refine blk_drew ?_ | refine blk_alloc ?_ _)); exact BK256.out) hg (Kd.R_ne HO_265001.out BK256.out (by decide)))
                have n1_ := Aside0.mk (blk_grown (g := gb262) (o := .cells #[.int .i64 t257, .int .i64 t258, .int .i64 t259, .slice AV_ nV_ cV_] 54 (0, 0)) (by (with_reducible repeat (first | refine blk_drewN ?_ _ | refine blk_drew ?_ | refine blk_alloc ?_ _)); exact BK262.out) hg (Kd.R_ne HO_265001.out BK262.out (by decide)))
                have n2_ := Aside0.mk (blk_grown (g := gb264) (o := .cells #[.int .i64 t259, u265001] 34 (0, 0)) (by (with_reducible repeat (first | refine blk_drewN ?_ _ | refine blk_drew ?_ | refine blk_alloc ?_ _)); exact BK264.out) hg (Kd.R_ne HO_265001.out BK264.out (by decide)))
                have n3_ := Aside0.mk (hb)
                have n4_ := Aside0.mk (ho)
                clear BK256
                clear BK262
                clear BK264
                clear HB
                clear HO_265001
                have BK256 := n0_
                have BK262 := n1_
                have BK264 := n2_
                have HB := n3_
                have HO268 := n4_
                clear n0_ n1_ n2_ n3_ n4_
                clear ho hb hg hat
                obtain ⟨Ao30, co30, eo30⟩ := Kd.R_slice HO268.out
                (first | subst eo30 | (injection eo30 with f1_ f2_ f3_; have f4_ := f1_.symm; have f5_ := f3_.symm; clear f1_ f2_ f3_; subst f4_; subst f5_))
                refine hK.out _ _ ⟨(blk_cell BK264.out 0).trans rfl, (blk_cell BK264.out 1).trans rfl⟩ (fun hHeld => ?_)
                clear hK K
                refine norm_ (a' := ?_) ?_ ?_
                rotate_left
                · show Act.put _ (some 40) _ = _
                  simp only [Act.put, List.setIfInBounds_toArray, List.set_cons_zero, List.set_cons_succ, i64_w, i32_w]
                  rfl
                refine pure_ (i := 9) (N := some 41) (v := ?_) (a' := ?_) #[true, true, true, true, true, true, true, true, true, true, false] rfl rfl (any_of HT_.out (by kernel_rfl)) (fun _ _ _ h => h) (Or.inl ⟨by rfl, ?_⟩) ?_ ?_
                rotate_left
                · intro w'
                  go_simp
                  with_reducible rfl
                rotate_left
                · simp only [Act.put, List.setIfInBounds_toArray, List.set_cons_zero, List.set_cons_succ, i64_w, i32_w]
                  rfl
                refine last_ (i := 10) (N := none) #[true, true, true, true, true, true, true, true, true, true, true] rfl rfl (one_of HT_.out (by kernel_rfl)) (by decide) (fun K hK => ?_)
                have hs31 : w29.cell? ⟨gb264, 1, none⟩ = some (u265001) := (blk_cell BK264.out 1).trans rfl
                have hfs31 := blk_frozen BK264.out 1
                have hns31_0 := NB256_264.out
                have hns31_1 := NB262_264.out
                have hms31_0 := NB264_256.out
                have hms31_1 := NB264_262.out
                refine skip_ (w1 := ?_) (by rfl) rfl ?_ ?_
                rotate_left
                · go_simp
                  rfl
                refine hK.out _ _ ?_
                clear hK K
                refine done_ (done_of HT_.out (by kernel_rfl)) ?_
                try go_wp2
                go_roundg k2
                case measure => have := HJ2.out; have := HK2.out; omega
                case rel => exact ⟨(wrap64 (x29_2 + 1)), (y266), (.slice Ao30 y266.length co30), (by first | rfl | (simp; done) | (simp [*]; done)), H', ⟨by have := HJ2.out; have := HK2.out; omega⟩, ⟨by (with_reducible repeat (first | apply Kd.R_alloc | apply Kd.R_drewN | apply Kd.R_drew)); exact Kd.R_mono (Kd.R_far (p := ⟨gb264, 1, none⟩) (Kd.R_types HO268.out BK264.out (by decide)) (fun _ hk => hk.2) (.slice Ao30 y266.length co30)) (fun _ hk => trivial)⟩, ⟨by (with_reducible repeat (first | refine blk_drewN ?_ _ | refine blk_drew ?_ | refine blk_alloc ?_ _)); refine blk_far ?_ NB256_264.out _; (with_reducible repeat (first | refine blk_drewN ?_ _ | refine blk_drew ?_ | refine blk_alloc ?_ _)); exact BK256.out⟩, ⟨by (with_reducible repeat (first | refine blk_drewN ?_ _ | refine blk_drew ?_ | refine blk_alloc ?_ _)); refine blk_far ?_ NB262_264.out _; (with_reducible repeat (first | refine blk_drewN ?_ _ | refine blk_drew ?_ | refine blk_alloc ?_ _)); exact BK262.out⟩, ⟨by (with_reducible repeat (first | refine blk_drewN ?_ _ | refine blk_drew ?_ | refine blk_alloc ?_ _)); refine blk_put (cs := #[.int .i64 t259, u265001]) ?_ 1 _ rfl; (with_reducible repeat (first | refine blk_drewN ?_ _ | refine blk_drew ?_ | refine blk_alloc ?_ _)); exact BK264.out⟩, ⟨by repeat (first | (with_reducible first | exact HB.out | apply below_alloc | apply pw_below_drewN | apply below_drew1 | refine below_set ?_ GE256.out | refine below_set ?_ GE262.out | refine below_set ?_ GE264.out) | exact HB.out)⟩⟩
              · rw [if_neg c27] at H
                exact absurd H (by simp)
            · rw [if_neg c25] at H
              have c25b0 : decide (x29_2 < t258) = false := decide_eq_false c25
              clear c25
              replace H := Option.bind_eq_some_iff.mp H
              obtain ⟨t269, A320, H⟩ := H
              replace H : ((impl_jblock_held.f t257 t258 t259 t260 t269).bind fun t272 => ((impl_good.f t272).bind fun t273 => (if t273 = true then (some (true, t259, x265001_2)) else (some (false, 0, ([] : List Int)))))) = some (r1, r2, r3) := H
              have A32 := Aside0.mk A320
              clear A320
              replace H := Option.bind_eq_some_iff.mp H
              obtain ⟨t272, A330, H⟩ := H
              replace H : ((impl_good.f t272).bind fun t273 => (if t273 = true then (some (true, t259, x265001_2)) else (some (false, 0, ([] : List Int))))) = some (r1, r2, r3) := H
              have A33 := Aside0.mk A330
              clear A330
              replace H := Option.bind_eq_some_iff.mp H
              obtain ⟨t273, A340, H⟩ := H
              replace H : (if t273 = true then (some (true, t259, x265001_2)) else (some (false, 0, ([] : List Int)))) = some (r1, r2, r3) := H
              have A34 := Aside0.mk A340
              clear A340
              by_cases c35 : t273 = true
              · subst c35
                have H1 : (some (true, t259, x265001_2)) = some (r1, r2, r3) := by rw [if_pos rfl] at H; exact H
                clear H
                have H := H1
                clear H1
                simp only [Option.some.injEq, Prod.mk.injEq] at H
                obtain ⟨rfl, rfl, rfl⟩ := H
                try go_wp2
                have n0_ := Aside0.mk (Kd.R_drew HO_265001.out)
                have n1_ := Aside0.mk (blk_drew BK256.out)
                have n2_ := Aside0.mk (blk_drew BK262.out)
                have n3_ := Aside0.mk (blk_drew BK264.out)
                have n4_ := Aside0.mk (below_drew1 HB.out)
                clear HO_265001
                clear BK256
                clear BK262
                clear BK264
                clear HB
                have HO_265001 := n0_
                have BK256 := n1_
                have BK262 := n2_
                have BK264 := n3_
                have HB := n4_
                clear n0_ n1_ n2_ n3_ n4_
                obtain ⟨Ao37, co37, eo37⟩ := Kd.R_slice HO_265001.out
                (first | subst eo37 | (injection eo37 with f1_ f2_ f3_; have f4_ := f1_.symm; have f5_ := f3_.symm; clear f1_ f2_ f3_; subst f4_; subst f5_))
                refine start_ (n := 6) (S := fun w' => w'.cell? ⟨gb262, 0, none⟩ = some (.int .i64 t257) ∧ w'.cell? ⟨gb262, 1, none⟩ = some (.int .i64 t258) ∧ w'.cell? ⟨gb262, 2, none⟩ = some (.int .i64 t259) ∧ w'.cell? ⟨gb262, 3, none⟩ = some (.slice AV_ nV_ cV_) ∧ w'.cell? ⟨gb264, 0, none⟩ = some (.int .i64 t259) ∧ w'.cell? ⟨gb264, 1, none⟩ = some (.slice Ao37 x265001_2.length co37)) (ds := []) #[false, false, false, false, false, false] (by kernel_rfl) rfl rfl ⟨(blk_cell BK262.out 0).trans rfl, (blk_cell BK262.out 1).trans rfl, (blk_cell BK262.out 2).trans rfl, (blk_cell BK262.out 3).trans rfl, (blk_cell BK264.out 0).trans rfl, (blk_cell BK264.out 1).trans rfl⟩ (fun hHeld => ?_)
                generalize wr.drew = w36 at HO_265001 BK256 BK262 BK264 HB hHeld ⊢
                refine take_ (i := 0) (N := some 43) (v := ?_) (a' := ?_) #[true, false, false, false, false, false] rfl rfl (by kernel_rfl) (fun _ _ _ h => h) (Or.inl ⟨by rfl, ?_⟩) hHeld ?_ ?_
                rotate_left
                · rintro w' ⟨s0, s1, s2, s3, s4, s5⟩
                  go_simp
                  with_reducible rfl
                rotate_left
                · simp only [Act.put, List.setIfInBounds_toArray, List.set_cons_zero, List.set_cons_succ, i64_w, i32_w]
                  rfl
                refine take_ (i := 1) (N := some 44) (v := ?_) (a' := ?_) #[true, true, false, false, false, false] rfl rfl (by kernel_rfl) (fun _ _ _ h => h) (Or.inl ⟨by rfl, ?_⟩) hHeld ?_ ?_
                rotate_left
                · rintro w' ⟨s0, s1, s2, s3, s4, s5⟩
                  go_simp
                  with_reducible rfl
                rotate_left
                · simp only [Act.put, List.setIfInBounds_toArray, List.set_cons_zero, List.set_cons_succ, i64_w, i32_w]
                  rfl
                refine one_ (i := 2) (N := some 45) #[true, true, true, false, false, false] rfl rfl (by kernel_rfl) (by decide) (fun K hK => ?_)
                refine goes_ Tryd.func33 (by kernel_rfl) rfl #[.agg #[.int .i64 t259, .slice Ao37 x265001_2.length co37]] (by rfl) rfl rfl (by (try simp only [List.map_toArray, List.map_cons, List.map_nil]); first | done | rfl | (simp only [List.length_drop, List.length_take]; rfl)) ?_
                with_reducible refine (impl_EncodeRevoke.calls k2 t259 _ _ x265001_2 t269 _ ?side1 ?side2 A32.out).mono ?_
                (case side1 => repeat (first | exact (Kd.R_reads' HO_265001.out).2.2 | (with_reducible refine Kd.C_alloc ?_ _) | (with_reducible refine Kd.C_drewN ?_ _) | (with_reducible refine Kd.C_drew ?_)))
                (case side2 => exact (Kd.R_reads' HO_265001.out).2.1)
                rintro e w38 ⟨v270, rfl, ho0, hb⟩
                refine ⟨_, rfl, ?_⟩
                have n0_ := Aside0.mk (Kd.R_below (by (with_reducible repeat (first | apply Kd.R_alloc | apply Kd.R_drewN | apply Kd.R_drew)); exact HO_265001.out) hb)
                have n1_ := Aside0.mk (Kd.R_lower ho0 (below_size (by repeat (first | (with_reducible first | exact HB.out | apply below_alloc | apply pw_below_drewN | apply below_drew1 | refine below_set ?_ GE256.out | refine below_set ?_ GE262.out | refine below_set ?_ GE264.out) | exact HB.out))))
                have n2_ := Aside0.mk (blk_below (g := gb256) (o := .cells #[.bool false, .int .i64 0, .slice none 0 0] 36 (0, 0)) (by (with_reducible repeat (first | refine blk_drewN ?_ _ | refine blk_drew ?_ | refine blk_alloc ?_ _)); exact BK256.out) hb)
                have n3_ := Aside0.mk (blk_below (g := gb262) (o := .cells #[.int .i64 t257, .int .i64 t258, .int .i64 t259, .slice AV_ nV_ cV_] 54 (0, 0)) (by (with_reducible repeat (first | refine blk_drewN ?_ _ | refine blk_drew ?_ | refine blk_alloc ?_ _)); exact BK262.out) hb)
                have n4_ := Aside0.mk (blk_below (g := gb264) (o := .cells #[.int .i64 t259, .slice Ao37 x265001_2.length co37] 34 (0, 0)) (by (with_reducible repeat (first | refine blk_drewN ?_ _ | refine blk_drew ?_ | refine blk_alloc ?_ _)); exact BK264.out) hb)
                have n5_ := Aside0.mk (below_step (by repeat (first | (with_reducible first | exact HB.out | apply below_alloc | apply pw_below_drewN | apply below_drew1 | refine below_set ?_ GE256.out | refine below_set ?_ GE262.out | refine below_set ?_ GE264.out) | exact HB.out)) hb)
                clear HO_265001
                clear BK256
                clear BK262
                clear BK264
                clear HB
                have HO_265001 := n0_
                have HO271 := n1_
                have BK256 := n2_
                have BK262 := n3_
                have BK264 := n4_
                have HB := n5_
                clear n0_ n1_ n2_ n3_ n4_ n5_
                (try clear hb)
                (try clear hb2)
                (try clear hk)
                (try clear hi)
                (try clear ho0)
                obtain ⟨Ao39, co39, eo39⟩ := Kd.R_slice HO271.out
                (first | subst eo39 | (injection eo39 with f1_ f2_ f3_; have f4_ := f1_.symm; have f5_ := f3_.symm; clear f1_ f2_ f3_; subst f4_; subst f5_))
                refine hK.out _ _ ⟨(blk_cell BK262.out 0).trans rfl, (blk_cell BK262.out 1).trans rfl, (blk_cell BK262.out 2).trans rfl, (blk_cell BK262.out 3).trans rfl, (blk_cell BK264.out 0).trans rfl, (blk_cell BK264.out 1).trans rfl⟩ (fun hHeld => ?_)
                clear hK K
                refine norm_ (a' := ?_) ?_ ?_
                rotate_left
                · show Act.put _ (some 45) _ = _
                  simp only [Act.put, List.setIfInBounds_toArray, List.set_cons_zero, List.set_cons_succ, i64_w, i32_w]
                  rfl
                refine one_ (i := 3) (N := some 46) #[true, true, true, true, false, false] rfl rfl (by kernel_rfl) (by decide) (fun K hK => ?_)
                refine goes_ Tryd.func29 (by kernel_rfl) rfl #[.agg #[.int .i64 t257, .int .i64 t258, .int .i64 t259, .slice AV_ nV_ cV_], .slice Ao39 t269.length co39] (by rfl) rfl rfl (by (try simp only [List.map_toArray, List.map_cons, List.map_nil]); first | done | rfl | (simp only [List.length_drop, List.length_take]; rfl)) ?_
                with_reducible refine (impl_jblock_held.calls t257 t258 t259 t260 _ _ t269 t272 _ ?side1 ?side2 A33.out (HV_.out (HZ_.out (by first | rfl | trivial))) (Kd.C_below HR0.out HB.out) (hG0.below HB.out)).mono ?_
                (case side1 => repeat (first | exact (Kd.R_reads' HO271.out).2.2 | (with_reducible refine Kd.C_alloc ?_ _) | (with_reducible refine Kd.C_drewN ?_ _) | (with_reducible refine Kd.C_drew ?_)))
                (case side2 => exact (Kd.R_reads' HO271.out).2.1)
                rintro e w40 ⟨E2_, rfl, hE2_, hb⟩
                have HF_ := Aside0.mk hE2_
                clear hE2_
                refine ⟨_, rfl, ?_⟩
                have n0_ := Aside0.mk (Kd.R_below (by (with_reducible repeat (first | apply Kd.R_alloc | apply Kd.R_drewN | apply Kd.R_drew)); exact HO_265001.out) hb)
                have n1_ := Aside0.mk (Kd.R_below (by (with_reducible repeat (first | apply Kd.R_alloc | apply Kd.R_drewN | apply Kd.R_drew)); exact HO271.out) hb)
                have n2_ := Aside0.mk (blk_below (g := gb256) (o := .cells #[.bool false, .int .i64 0, .slice none 0 0] 36 (0, 0)) (by (with_reducible repeat (first | refine blk_drewN ?_ _ | refine blk_drew ?_ | refine blk_alloc ?_ _)); exact BK256.out) hb)
                have n3_ := Aside0.mk (blk_below (g := gb262) (o := .cells #[.int .i64 t257, .int .i64 t258, .int .i64 t259, .slice AV_ nV_ cV_] 54 (0, 0)) (by (with_reducible repeat (first | refine blk_drewN ?_ _ | refine blk_drew ?_ | refine blk_alloc ?_ _)); exact BK262.out) hb)
                have n4_ := Aside0.mk (blk_below (g := gb264) (o := .cells #[.int .i64 t259, .slice Ao37 x265001_2.length co37] 34 (0, 0)) (by (with_reducible repeat (first | refine blk_drewN ?_ _ | refine blk_drew ?_ | refine blk_alloc ?_ _)); exact BK264.out) hb)
                have n5_ := Aside0.mk (below_step (by repeat (first | (with_reducible first | exact HB.out | apply below_alloc | apply pw_below_drewN | apply below_drew1 | refine below_set ?_ GE256.out | refine below_set ?_ GE262.out | refine below_set ?_ GE264.out) | exact HB.out)) hb)
                clear HO_265001
                clear HO271
                clear BK256
                clear BK262
                clear BK264
                clear HB
                have HO_265001 := n0_
                have HO271 := n1_
                have BK256 := n2_
                have BK262 := n3_
                have BK264 := n4_
                have HB := n5_
                clear n0_ n1_ n2_ n3_ n4_ n5_
                (try clear hb)
                (try clear hb2)
                (try clear hk)
                (try clear hi)
                refine hK.out _ _ ⟨(blk_cell BK262.out 0).trans rfl, (blk_cell BK262.out 1).trans rfl, (blk_cell BK262.out 2).trans rfl, (blk_cell BK262.out 3).trans rfl, (blk_cell BK264.out 0).trans rfl, (blk_cell BK264.out 1).trans rfl⟩ (fun hHeld => ?_)
                clear hK K
                refine norm_ (a' := ?_) ?_ ?_
                rotate_left
                · show Act.put _ (some 46) _ = _
                  simp only [Act.put, List.setIfInBounds_toArray, List.set_cons_zero, List.set_cons_succ, i64_w, i32_w]
                  rfl
                refine one_ (i := 4) (N := some 47) #[true, true, true, true, true, false] rfl rfl (by kernel_rfl) (by decide) (fun K hK => ?_)
                refine goes_ Tryd.func27 (by kernel_rfl) rfl #[E2_] (by rfl) rfl rfl (by (try simp only [List.map_toArray, List.map_cons, List.map_nil]); first | done | rfl | (simp only [List.length_drop, List.length_take]; rfl)) ?_
                with_reducible refine (impl_good.calls t272 true _ A34.out HF_.out (hG0.below (by repeat (first | (with_reducible first | exact HB.out | apply below_alloc | apply pw_below_drewN | apply below_drew1 | refine below_set ?_ GE256.out | refine below_set ?_ GE262.out | refine below_set ?_ GE264.out) | exact HB.out)))).mono ?_
                rintro e w41 ⟨rfl, hb⟩
                refine ⟨_, rfl, ?_⟩
                have n0_ := Aside0.mk (Kd.R_below (by (with_reducible repeat (first | apply Kd.R_alloc | apply Kd.R_drewN | apply Kd.R_drew)); exact HO_265001.out) hb)
                have n1_ := Aside0.mk (Kd.R_below (by (with_reducible repeat (first | apply Kd.R_alloc | apply Kd.R_drewN | apply Kd.R_drew)); exact HO271.out) hb)
                have n2_ := Aside0.mk (blk_below (g := gb256) (o := .cells #[.bool false, .int .i64 0, .slice none 0 0] 36 (0, 0)) (by (with_reducible repeat (first | refine blk_drewN ?_ _ | refine blk_drew ?_ | refine blk_alloc ?_ _)); exact BK256.out) hb)
                have n3_ := Aside0.mk (blk_below (g := gb262) (o := .cells #[.int .i64 t257, .int .i64 t258, .int .i64 t259, .slice AV_ nV_ cV_] 54 (0, 0)) (by (with_reducible repeat (first | refine blk_drewN ?_ _ | refine blk_drew ?_ | refine blk_alloc ?_ _)); exact BK262.out) hb)
                have n4_ := Aside0.mk (blk_below (g := gb264) (o := .cells #[.int .i64 t259, .slice Ao37 x265001_2.length co37] 34 (0, 0)) (by (with_reducible repeat (first | refine blk_drewN ?_ _ | refine blk_drew ?_ | refine blk_alloc ?_ _)); exact BK264.out) hb)
                have n5_ := Aside0.mk (below_step (by repeat (first | (with_reducible first | exact HB.out | apply below_alloc | apply pw_below_drewN | apply below_drew1 | refine below_set ?_ GE256.out | refine below_set ?_ GE262.out | refine below_set ?_ GE264.out) | exact HB.out)) hb)
                clear HO_265001
                clear HO271
                clear BK256
                clear BK262
                clear BK264
                clear HB
                have HO_265001 := n0_
                have HO271 := n1_
                have BK256 := n2_
                have BK262 := n3_
                have BK264 := n4_
                have HB := n5_
                clear n0_ n1_ n2_ n3_ n4_ n5_
                (try clear hb)
                (try clear hb2)
                (try clear hk)
                (try clear hi)
                refine hK.out _ _ ⟨(blk_cell BK262.out 0).trans rfl, (blk_cell BK262.out 1).trans rfl, (blk_cell BK262.out 2).trans rfl, (blk_cell BK262.out 3).trans rfl, (blk_cell BK264.out 0).trans rfl, (blk_cell BK264.out 1).trans rfl⟩ (fun hHeld => ?_)
                clear hK K
                refine norm_ (a' := ?_) ?_ ?_
                rotate_left
                · show Act.put _ (some 47) _ = _
                  simp only [Act.put, List.setIfInBounds_toArray, List.set_cons_zero, List.set_cons_succ, i64_w, i32_w]
                  rfl
                refine pure_ (i := 5) (N := some 48) (v := ?_) (a' := ?_) #[true, true, true, true, true, true] rfl rfl (by kernel_rfl) (fun _ _ _ h => h) (Or.inl ⟨by rfl, ?_⟩) ?_ ?_
                rotate_left
                · intro w'
                  go_simp
                  with_reducible rfl
                rotate_left
                · simp only [Act.put, List.setIfInBounds_toArray, List.set_cons_zero, List.set_cons_succ, i64_w, i32_w]
                  rfl
                refine done_ (by kernel_rfl) ?_
                have hnb42 := NB264_256.out
                have hnc42 := NB256_264.out
                have hnb43 := NB264_262.out
                have hnc43 := NB262_264.out
                have hcz44_0 : w41.cell? ⟨gb264, 0, none⟩ = some (.int .i64 t259) := (blk_cell BK264.out 0).trans rfl
                have hcz44_1 : w41.cell? ⟨gb264, 1, none⟩ = some (.slice Ao37 x265001_2.length co37) := (blk_cell BK264.out 1).trans rfl
                have hfz44_0 := blk_frozen BK264.out 0
                have hfz44_1 := blk_frozen BK264.out 1
                have hnb45 := NB256_262.out
                have hnc45 := NB262_256.out
                have hcz46_0 : w41.cell? ⟨gb256, 0, none⟩ = some (.bool false) := (blk_cell BK256.out 0).trans rfl
                have hcz46_1 : w41.cell? ⟨gb256, 1, none⟩ = some (.int .i64 0) := (blk_cell BK256.out 1).trans rfl
                have hcz46_2 : w41.cell? ⟨gb256, 2, none⟩ = some (.slice none 0 0) := (blk_cell BK256.out 2).trans rfl
                have hfz46_0 := blk_frozen BK256.out 0
                have hfz46_1 := blk_frozen BK256.out 1
                have hfz46_2 := blk_frozen BK256.out 2
                try go_wp2
                refine bodyPost_ret (results_cell_row rfl _ _ gb256 36 #[.bool true, .int .i64 t259, .slice Ao37 x265001_2.length co37] (0, 0) _ rfl (by (with_reducible repeat (first | refine blk_drewN ?_ _ | refine blk_drew ?_ | refine blk_alloc ?_ _)); refine blk_put (cs := #[.bool true, .int .i64 t259, .slice none 0 0]) ?_ 2 _ rfl; (with_reducible repeat (first | refine blk_drewN ?_ _ | refine blk_drew ?_ | refine blk_alloc ?_ _)); refine blk_put (cs := #[.bool true, .int .i64 0, .slice none 0 0]) ?_ 1 _ rfl; (with_reducible repeat (first | refine blk_drewN ?_ _ | refine blk_drew ?_ | refine blk_alloc ?_ _)); refine blk_put (cs := #[.bool false, .int .i64 0, .slice none 0 0]) ?_ 0 _ rfl; (with_reducible repeat (first | refine blk_drewN ?_ _ | refine blk_drew ?_ | refine blk_alloc ?_ _)); exact BK256.out) Tryd.underlying36 rfl (by kernel_rfl)) rfl ?_
                exact ⟨_, by first | rfl | (simp [errW_none, errW_some] <;> rfl) | (simp [*, errW_none, errW_some] <;> rfl), by (with_reducible repeat (first | apply Kd.R_alloc | apply Kd.R_drewN | apply Kd.R_drew)); exact Kd.R_mono (Kd.R_far (p := ⟨gb256, 2, none⟩) (Kd.R_far (p := ⟨gb256, 1, none⟩) (Kd.R_far (p := ⟨gb256, 0, none⟩) (Kd.R_types HO_265001.out BK256.out (by decide)) (fun _ hk => hk.2) (.bool true)) (fun _ hk => hk.2) (.int .i64 t259)) (fun _ hk => hk.2) (.slice Ao37 x265001_2.length co37)) (fun _ hk => trivial), by repeat (first | (with_reducible first | exact HB.out | apply below_alloc | apply pw_below_drewN | apply below_drew1 | refine below_set ?_ GE256.out | refine below_set ?_ GE262.out | refine below_set ?_ GE264.out) | exact HB.out)⟩
              · replace c35 := Bool.eq_false_iff.mpr c35
                subst c35
                have H1 : (some (false, 0, ([] : List Int))) = some (r1, r2, r3) := by rw [if_neg (show ¬ (false = true) by decide)] at H; exact H
                clear H
                have H := H1
                clear H1
                simp only [Option.some.injEq, Prod.mk.injEq] at H
                obtain ⟨rfl, rfl, rfl⟩ := H
                try go_wp2
                have n0_ := Aside0.mk (Kd.R_drew HO_265001.out)
                have n1_ := Aside0.mk (blk_drew BK256.out)
                have n2_ := Aside0.mk (blk_drew BK262.out)
                have n3_ := Aside0.mk (blk_drew BK264.out)
                have n4_ := Aside0.mk (below_drew1 HB.out)
                clear HO_265001
                clear BK256
                clear BK262
                clear BK264
                clear HB
                have HO_265001 := n0_
                have BK256 := n1_
                have BK262 := n2_
                have BK264 := n3_
                have HB := n4_
                clear n0_ n1_ n2_ n3_ n4_
                obtain ⟨Ao48, co48, eo48⟩ := Kd.R_slice HO_265001.out
                (first | subst eo48 | (injection eo48 with f1_ f2_ f3_; have f4_ := f1_.symm; have f5_ := f3_.symm; clear f1_ f2_ f3_; subst f4_; subst f5_))
                refine start_ (n := 6) (S := fun w' => w'.cell? ⟨gb262, 0, none⟩ = some (.int .i64 t257) ∧ w'.cell? ⟨gb262, 1, none⟩ = some (.int .i64 t258) ∧ w'.cell? ⟨gb262, 2, none⟩ = some (.int .i64 t259) ∧ w'.cell? ⟨gb262, 3, none⟩ = some (.slice AV_ nV_ cV_) ∧ w'.cell? ⟨gb264, 0, none⟩ = some (.int .i64 t259) ∧ w'.cell? ⟨gb264, 1, none⟩ = some (.slice Ao48 x265001_2.length co48)) (ds := []) #[false, false, false, false, false, false] (by kernel_rfl) rfl rfl ⟨(blk_cell BK262.out 0).trans rfl, (blk_cell BK262.out 1).trans rfl, (blk_cell BK262.out 2).trans rfl, (blk_cell BK262.out 3).trans rfl, (blk_cell BK264.out 0).trans rfl, (blk_cell BK264.out 1).trans rfl⟩ (fun hHeld => ?_)
                generalize wr.drew = w47 at HO_265001 BK256 BK262 BK264 HB hHeld ⊢
                refine take_ (i := 0) (N := some 43) (v := ?_) (a' := ?_) #[true, false, false, false, false, false] rfl rfl (by kernel_rfl) (fun _ _ _ h => h) (Or.inl ⟨by rfl, ?_⟩) hHeld ?_ ?_
                rotate_left
                · rintro w' ⟨s0, s1, s2, s3, s4, s5⟩
                  go_simp
                  with_reducible rfl
                rotate_left
                · simp only [Act.put, List.setIfInBounds_toArray, List.set_cons_zero, List.set_cons_succ, i64_w, i32_w]
                  rfl
                refine take_ (i := 1) (N := some 44) (v := ?_) (a' := ?_) #[true, true, false, false, false, false] rfl rfl (by kernel_rfl) (fun _ _ _ h => h) (Or.inl ⟨by rfl, ?_⟩) hHeld ?_ ?_
                rotate_left
                · rintro w' ⟨s0, s1, s2, s3, s4, s5⟩
                  go_simp
                  with_reducible rfl
                rotate_left
                · simp only [Act.put, List.setIfInBounds_toArray, List.set_cons_zero, List.set_cons_succ, i64_w, i32_w]
                  rfl
                refine one_ (i := 2) (N := some 45) #[true, true, true, false, false, false] rfl rfl (by kernel_rfl) (by decide) (fun K hK => ?_)
                refine goes_ Tryd.func33 (by kernel_rfl) rfl #[.agg #[.int .i64 t259, .slice Ao48 x265001_2.length co48]] (by rfl) rfl rfl (by (try simp only [List.map_toArray, List.map_cons, List.map_nil]); first | done | rfl | (simp only [List.length_drop, List.length_take]; rfl)) ?_
                with_reducible refine (impl_EncodeRevoke.calls k2 t259 _ _ x265001_2 t269 _ ?side1 ?side2 A32.out).mono ?_
                (case side1 => repeat (first | exact (Kd.R_reads' HO_265001.out).2.2 | (with_reducible refine Kd.C_alloc ?_ _) | (with_reducible refine Kd.C_drewN ?_ _) | (with_reducible refine Kd.C_drew ?_)))
                (case side2 => exact (Kd.R_reads' HO_265001.out).2.1)
                rintro e w49 ⟨v270, rfl, ho0, hb⟩
                refine ⟨_, rfl, ?_⟩
                have n0_ := Aside0.mk (Kd.R_below (by (with_reducible repeat (first | apply Kd.R_alloc | apply Kd.R_drewN | apply Kd.R_drew)); exact HO_265001.out) hb)
                have n1_ := Aside0.mk (Kd.R_lower ho0 (below_size (by repeat (first | (with_reducible first | exact HB.out | apply below_alloc | apply pw_below_drewN | apply below_drew1 | refine below_set ?_ GE256.out | refine below_set ?_ GE262.out | refine below_set ?_ GE264.out) | exact HB.out))))
                have n2_ := Aside0.mk (blk_below (g := gb256) (o := .cells #[.bool false, .int .i64 0, .slice none 0 0] 36 (0, 0)) (by (with_reducible repeat (first | refine blk_drewN ?_ _ | refine blk_drew ?_ | refine blk_alloc ?_ _)); exact BK256.out) hb)
                have n3_ := Aside0.mk (blk_below (g := gb262) (o := .cells #[.int .i64 t257, .int .i64 t258, .int .i64 t259, .slice AV_ nV_ cV_] 54 (0, 0)) (by (with_reducible repeat (first | refine blk_drewN ?_ _ | refine blk_drew ?_ | refine blk_alloc ?_ _)); exact BK262.out) hb)
                have n4_ := Aside0.mk (blk_below (g := gb264) (o := .cells #[.int .i64 t259, .slice Ao48 x265001_2.length co48] 34 (0, 0)) (by (with_reducible repeat (first | refine blk_drewN ?_ _ | refine blk_drew ?_ | refine blk_alloc ?_ _)); exact BK264.out) hb)
                have n5_ := Aside0.mk (below_step (by repeat (first | (with_reducible first | exact HB.out | apply below_alloc | apply pw_below_drewN | apply below_drew1 | refine below_set ?_ GE256.out | refine below_set ?_ GE262.out | refine below_set ?_ GE264.out) | exact HB.out)) hb)
                clear HO_265001
                clear BK256
                clear BK262
                clear BK264
                clear HB
                have HO_265001 := n0_
                have HO271 := n1_
                have BK256 := n2_
                have BK262 := n3_
                have BK264 := n4_
                have HB := n5_
                clear n0_ n1_ n2_ n3_ n4_ n5_
                (try clear hb)
                (try clear hb2)
                (try clear hk)
                (try clear hi)
                (try clear ho0)
                obtain ⟨Ao50, co50, eo50⟩ := Kd.R_slice HO271.out
                (first | subst eo50 | (injection eo50 with f1_ f2_ f3_; have f4_ := f1_.symm; have f5_ := f3_.symm; clear f1_ f2_ f3_; subst f4_; subst f5_))
                refine hK.out _ _ ⟨(blk_cell BK262.out 0).trans rfl, (blk_cell BK262.out 1).trans rfl, (blk_cell BK262.out 2).trans rfl, (blk_cell BK262.out 3).trans rfl, (blk_cell BK264.out 0).trans rfl, (blk_cell BK264.out 1).trans rfl⟩ (fun hHeld => ?_)
                clear hK K
                refine norm_ (a' := ?_) ?_ ?_
                rotate_left
                · show Act.put _ (some 45) _ = _
                  simp only [Act.put, List.setIfInBounds_toArray, List.set_cons_zero, List.set_cons_succ, i64_w, i32_w]
                  rfl
                refine one_ (i := 3) (N := some 46) #[true, true, true, true, false, false] rfl rfl (by kernel_rfl) (by decide) (fun K hK => ?_)
                refine goes_ Tryd.func29 (by kernel_rfl) rfl #[.agg #[.int .i64 t257, .int .i64 t258, .int .i64 t259, .slice AV_ nV_ cV_], .slice Ao50 t269.length co50] (by rfl) rfl rfl (by (try simp only [List.map_toArray, List.map_cons, List.map_nil]); first | done | rfl | (simp only [List.length_drop, List.length_take]; rfl)) ?_
                with_reducible refine (impl_jblock_held.calls t257 t258 t259 t260 _ _ t269 t272 _ ?side1 ?side2 A33.out (HV_.out (HZ_.out (by first | rfl | trivial))) (Kd.C_below HR0.out HB.out) (hG0.below HB.out)).mono ?_
                (case side1 => repeat (first | exact (Kd.R_reads' HO271.out).2.2 | (with_reducible refine Kd.C_alloc ?_ _) | (with_reducible refine Kd.C_drewN ?_ _) | (with_reducible refine Kd.C_drew ?_)))
                (case side2 => exact (Kd.R_reads' HO271.out).2.1)
                rintro e w51 ⟨E2_, rfl, hE2_, hb⟩
                have HF_ := Aside0.mk hE2_
                clear hE2_
                refine ⟨_, rfl, ?_⟩
                have n0_ := Aside0.mk (Kd.R_below (by (with_reducible repeat (first | apply Kd.R_alloc | apply Kd.R_drewN | apply Kd.R_drew)); exact HO_265001.out) hb)
                have n1_ := Aside0.mk (Kd.R_below (by (with_reducible repeat (first | apply Kd.R_alloc | apply Kd.R_drewN | apply Kd.R_drew)); exact HO271.out) hb)
                have n2_ := Aside0.mk (blk_below (g := gb256) (o := .cells #[.bool false, .int .i64 0, .slice none 0 0] 36 (0, 0)) (by (with_reducible repeat (first | refine blk_drewN ?_ _ | refine blk_drew ?_ | refine blk_alloc ?_ _)); exact BK256.out) hb)
                have n3_ := Aside0.mk (blk_below (g := gb262) (o := .cells #[.int .i64 t257, .int .i64 t258, .int .i64 t259, .slice AV_ nV_ cV_] 54 (0, 0)) (by (with_reducible repeat (first | refine blk_drewN ?_ _ | refine blk_drew ?_ | refine blk_alloc ?_ _)); exact BK262.out) hb)
                have n4_ := Aside0.mk (blk_below (g := gb264) (o := .cells #[.int .i64 t259, .slice Ao48 x265001_2.length co48] 34 (0, 0)) (by (with_reducible repeat (first | refine blk_drewN ?_ _ | refine blk_drew ?_ | refine blk_alloc ?_ _)); exact BK264.out) hb)
                have n5_ := Aside0.mk (below_step (by repeat (first | (with_reducible first | exact HB.out | apply below_alloc | apply pw_below_drewN | apply below_drew1 | refine below_set ?_ GE256.out | refine below_set ?_ GE262.out | refine below_set ?_ GE264.out) | exact HB.out)) hb)
                clear HO_265001
                clear HO271
                clear BK256
                clear BK262
                clear BK264
                clear HB
                have HO_265001 := n0_
                have HO271 := n1_
                have BK256 := n2_
                have BK262 := n3_
                have BK264 := n4_
                have HB := n5_
                clear n0_ n1_ n2_ n3_ n4_ n5_
                (try clear hb)
                (try clear hb2)
                (try clear hk)
                (try clear hi)
                refine hK.out _ _ ⟨(blk_cell BK262.out 0).trans rfl, (blk_cell BK262.out 1).trans rfl, (blk_cell BK262.out 2).trans rfl, (blk_cell BK262.out 3).trans rfl, (blk_cell BK264.out 0).trans rfl, (blk_cell BK264.out 1).trans rfl⟩ (fun hHeld => ?_)
                clear hK K
                refine norm_ (a' := ?_) ?_ ?_
                rotate_left
                · show Act.put _ (some 46) _ = _
                  simp only [Act.put, List.setIfInBounds_toArray, List.set_cons_zero, List.set_cons_succ, i64_w, i32_w]
                  rfl
                refine one_ (i := 4) (N := some 47) #[true, true, true, true, true, false] rfl rfl (by kernel_rfl) (by decide) (fun K hK => ?_)
                refine goes_ Tryd.func27 (by kernel_rfl) rfl #[E2_] (by rfl) rfl rfl (by (try simp only [List.map_toArray, List.map_cons, List.map_nil]); first | done | rfl | (simp only [List.length_drop, List.length_take]; rfl)) ?_
                with_reducible refine (impl_good.calls t272 false _ A34.out HF_.out (hG0.below (by repeat (first | (with_reducible first | exact HB.out | apply below_alloc | apply pw_below_drewN | apply below_drew1 | refine below_set ?_ GE256.out | refine below_set ?_ GE262.out | refine below_set ?_ GE264.out) | exact HB.out)))).mono ?_
                rintro e w52 ⟨rfl, hb⟩
                refine ⟨_, rfl, ?_⟩
                have n0_ := Aside0.mk (Kd.R_below (by (with_reducible repeat (first | apply Kd.R_alloc | apply Kd.R_drewN | apply Kd.R_drew)); exact HO_265001.out) hb)
                have n1_ := Aside0.mk (Kd.R_below (by (with_reducible repeat (first | apply Kd.R_alloc | apply Kd.R_drewN | apply Kd.R_drew)); exact HO271.out) hb)
                have n2_ := Aside0.mk (blk_below (g := gb256) (o := .cells #[.bool false, .int .i64 0, .slice none 0 0] 36 (0, 0)) (by (with_reducible repeat (first | refine blk_drewN ?_ _ | refine blk_drew ?_ | refine blk_alloc ?_ _)); exact BK256.out) hb)
                have n3_ := Aside0.mk (blk_below (g := gb262) (o := .cells #[.int .i64 t257, .int .i64 t258, .int .i64 t259, .slice AV_ nV_ cV_] 54 (0, 0)) (by (with_reducible repeat (first | refine blk_drewN ?_ _ | refine blk_drew ?_ | refine blk_alloc ?_ _)); exact BK262.out) hb)
                have n4_ := Aside0.mk (blk_below (g := gb264) (o := .cells #[.int .i64 t259, .slice Ao48 x265001_2.length co48] 34 (0, 0)) (by (with_reducible repeat (first | refine blk_drewN ?_ _ | refine blk_drew ?_ | refine blk_alloc ?_ _)); exact BK264.out) hb)
                have n5_ := Aside0.mk (below_step (by repeat (first | (with_reducible first | exact HB.out | apply below_alloc | apply pw_below_drewN | apply below_drew1 | refine below_set ?_ GE256.out | refine below_set ?_ GE262.out | refine below_set ?_ GE264.out) | exact HB.out)) hb)
                clear HO_265001
                clear HO271
                clear BK256
                clear BK262
                clear BK264
                clear HB
                have HO_265001 := n0_
                have HO271 := n1_
                have BK256 := n2_
                have BK262 := n3_
                have BK264 := n4_
                have HB := n5_
                clear n0_ n1_ n2_ n3_ n4_ n5_
                (try clear hb)
                (try clear hb2)
                (try clear hk)
                (try clear hi)
                refine hK.out _ _ ⟨(blk_cell BK262.out 0).trans rfl, (blk_cell BK262.out 1).trans rfl, (blk_cell BK262.out 2).trans rfl, (blk_cell BK262.out 3).trans rfl, (blk_cell BK264.out 0).trans rfl, (blk_cell BK264.out 1).trans rfl⟩ (fun hHeld => ?_)
                clear hK K
                refine norm_ (a' := ?_) ?_ ?_
                rotate_left
                · show Act.put _ (some 47) _ = _
                  simp only [Act.put, List.setIfInBounds_toArray, List.set_cons_zero, List.set_cons_succ, i64_w, i32_w]
                  rfl
                refine pure_ (i := 5) (N := some 48) (v := ?_) (a' := ?_) #[true, true, true, true, true, true] rfl rfl (by kernel_rfl) (fun _ _ _ h => h) (Or.inl ⟨by rfl, ?_⟩) ?_ ?_
                rotate_left
                · intro w'
                  go_simp
                  with_reducible rfl
                rotate_left
                · simp only [Act.put, List.setIfInBounds_toArray, List.set_cons_zero, List.set_cons_succ, i64_w, i32_w]
                  rfl
                refine done_ (by kernel_rfl) ?_
                have hnb53 := NB256_262.out
                have hnc53 := NB262_256.out
                have hnb54 := NB256_264.out
                have hnc54 := NB264_256.out
                have hcz55_0 : w52.cell? ⟨gb256, 0, none⟩ = some (.bool false) := (blk_cell BK256.out 0).trans rfl
                have hcz55_1 : w52.cell? ⟨gb256, 1, none⟩ = some (.int .i64 0) := (blk_cell BK256.out 1).trans rfl
                have hcz55_2 : w52.cell? ⟨gb256, 2, none⟩ = some (.slice none 0 0) := (blk_cell BK256.out 2).trans rfl
                have hfz55_0 := blk_frozen BK256.out 0
                have hfz55_1 := blk_frozen BK256.out 1
                have hfz55_2 := blk_frozen BK256.out 2
                try go_wp2
                refine bodyPost_ret (results_cell_row rfl _ _ gb256 36 #[.bool false, .int .i64 0, .slice none 0 0] (0, 0) _ rfl (by (with_reducible repeat (first | refine blk_drewN ?_ _ | refine blk_drew ?_ | refine blk_alloc ?_ _)); refine blk_put (cs := #[.bool false, .int .i64 0, .slice none 0 0]) ?_ 2 _ rfl; (with_reducible repeat (first | refine blk_drewN ?_ _ | refine blk_drew ?_ | refine blk_alloc ?_ _)); refine blk_put (cs := #[.bool false, .int .i64 0, .slice none 0 0]) ?_ 1 _ rfl; (with_reducible repeat (first | refine blk_drewN ?_ _ | refine blk_drew ?_ | refine blk_alloc ?_ _)); refine blk_put (cs := #[.bool false, .int .i64 0, .slice none 0 0]) ?_ 0 _ rfl; (with_reducible repeat (first | refine blk_drewN ?_ _ | refine blk_drew ?_ | refine blk_alloc ?_ _)); exact BK256.out) Tryd.underlying36 rfl (by kernel_rfl)) rfl ?_
                exact ⟨_, by first | rfl | (simp [errW_none, errW_some] <;> rfl) | (simp [*, errW_none, errW_some] <;> rfl), by first | exact Kd.R_nil _ _ _ _ _ | exact Kd.N_nil _ _ _ _ _ | exact Kd.V_nil _ _ _ _ _ | exact Kd.Q_nil _ _ _ _ _ | exact Kd.S_nil _ _ _ _ _, by repeat (first | (with_reducible first | exact HB.out | apply below_alloc | apply pw_below_drewN | apply below_drew1 | refine below_set ?_ GE256.out | refine below_set ?_ GE262.out | refine below_set ?_ GE264.out) | exact HB.out)⟩

end Go.Proofs.YtmlahbgogbjfpaaDoor.PFnExactDecodeRevoke
