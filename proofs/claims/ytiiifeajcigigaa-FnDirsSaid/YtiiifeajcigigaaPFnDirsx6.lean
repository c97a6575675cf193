-- written by a program of this session (wip/src/print2.py)
import Derived.Test.YtiiifeajcigigaaPFnDirsx0
import Derived.Test.YtiiifeajcigigaaPFnDirsx4
import Derived.Test.YtiiifeajcigigaaPFnDirsx5
namespace Go.Proofs.Ytiiifeajcigigaa.PFnDirs
open Go.RowKit Go.Proofs.YtiiifeajcigigaaW.PrintWords Go.Proofs.YtiiifeajcigigaaW.PrintLast Go.Proofs.YtiiifeajcigigaaW.PrintMore
attribute [local go_sem] max2_int min2_int max_two min_two max_three min_three max_four min_four   -- for this text's walks alone
set_option linter.unusedVariables false
set_option linter.unusedSimpArgs false

/-! ### spec_DrawDirRemove: function 37 -/
def spec_DrawDirRemove.f (k : Nat) (l0 : List Int) : Option ((List (S27)) × Int) := (spec_l1Source.f l0).bind fun bt295 => ((spec_l10DrawEntries.f k bt295.1 bt295.2.1 bt295.2.2).bind fun bt299 => ((spec_l1Next.f bt295.1 bt299.2.1 bt299.2.2 (wrap64 ((bt299.1.length : Int) + 2))).bind fun bt304 => (some (bt299.1, wrap64 (bt304.1 - 1)))))
theorem spec_DrawDirRemove.mono : ∀ a0 k, LeO (spec_DrawDirRemove.f k a0) (spec_DrawDirRemove.f (k + 1) a0) := by
  intro a0 k
  unfold spec_DrawDirRemove.f
  repeat' first
      | (with_reducible exact spec_l10DrawEntries.mono _ _ _ _)
      | (with_reducible exact LeO.refl _)
      | (with_reducible exact LeO.none _)
      | (with_reducible refine LeO.ite ?_ ?_)
      | (with_reducible refine LeO.bind ?_ (fun _ => ?_))
      | exact spec_l10DrawEntries.mono _ _ _ _
      | exact LeO.none _
      | refine LeO.ite ?_ ?_
      | refine LeO.bind ?_ (fun _ => ?_)
set_option maxHeartbeats 8000000 in
set_option maxRecDepth 100000 in
theorem spec_DrawDirRemove.calls (k : Nat) (A0 : Option Addr) (c0 : Nat) (l0 : List Int) (r1 : List (S27)) (r2 : Int) (w : World) (hr0 : Kd.C (Kd.int .u8) w A0 l0.length l0) (hc0 : l0.length ≤ c0) (h : spec_DrawDirRemove.f k l0 = some (r1, r2)) :
    Calls Try.prog 37 #[.slice A0 l0.length c0] w fun e w' => ∃ v0_ : Value, e = .returned (.tuple #[v0_, .int .i64 r2]) ∧ Kd.R k27 27 w' w.heap.size (fun _ => True) v0_ r1 ∧ Below w.heap.size w w' := by
  have HR0 := Aside0.mk hr0
  have HC0 := Aside0.mk hc0
  clear hr0 hc0
  have HB := Aside0.mk (Below.refl w.heap.size w)
  have H : ((spec_l1Source.f l0).bind fun bt295 => ((spec_l10DrawEntries.f k bt295.1 bt295.2.1 bt295.2.2).bind fun bt299 => ((spec_l1Next.f bt295.1 bt299.2.1 bt299.2.2 (wrap64 ((bt299.1.length : Int) + 2))).bind fun bt304 => (some (bt299.1, wrap64 (bt304.1 - 1)))))) = some (r1, r2) := h
  clear h
  replace H := Option.bind_eq_some_iff.mp H
  obtain ⟨⟨t295, t296, t297⟩, A20, H⟩ := H
  replace H : ((spec_l10DrawEntries.f k t295 t296 t297).bind fun bt299 => ((spec_l1Next.f t295 bt299.2.1 bt299.2.2 (wrap64 ((bt299.1.length : Int) + 2))).bind fun bt304 => (some (bt299.1, wrap64 (bt304.1 - 1))))) = some (r1, r2) := H
  have A2 := Aside0.mk A20
  clear A20
  replace H := Option.bind_eq_some_iff.mp H
  obtain ⟨⟨t299, t302, t303⟩, A30, H⟩ := H
  replace H : ((spec_l1Next.f t295 t302 t303 (wrap64 ((t299.length : Int) + 2))).bind fun bt304 => (some (t299, wrap64 (bt304.1 - 1)))) = some (r1, r2) := H
  have A3 := Aside0.mk A30
  clear A30
  replace H := Option.bind_eq_some_iff.mp H
  obtain ⟨⟨t304, t305, t306⟩, A40, H⟩ := H
  replace H : (some (t299, wrap64 (t304 - 1))) = some (r1, r2) := H
  have A4 := Aside0.mk A40
  clear A40
  simp only [Option.some.injEq, Prod.mk.injEq] at H
  obtain ⟨rfl, rfl⟩ := H
  go_enter Try.func37, Try.ntmps37
  go_wp2_with (first | ((with_reducible refine gate_callee (f := 64) rfl ?_); refine goesL_ (some 7) rfl rfl Try.func64 (by kernel_rfl) rfl #[.slice A0 l0.length c0] rfl (by (try simp only [List.map_toArray, List.map_cons, List.map_nil]); first | done | rfl | (simp only [List.length_drop, List.length_take]; rfl)) ?_; (with_reducible refine (spec_l1Source.calls _ _ l0 t295 t296 t297 w _ ?side1 ?side2 ?side3 A2.out).mono ?_); (case side1 => repeat (first | (with_reducible first | exact HB.out | apply below_alloc | apply pw_below_drewN | apply below_drew1) | exact HB.out)); (case side2 => exact HR0.out); (case side3 => exact HC0.out); rintro e w5 ⟨g298, rfl, hi, hb, hb2⟩; refine ⟨_, rfl, ?_⟩; have n0_ := Aside0.mk (hb); have n1_ := Aside0.mk (hi); clear HB; have HB := n0_; have HI298 := n1_; clear n0_ n1_; (try clear hb); (try clear hb2); (try clear hk); (try clear hi)) | ((with_reducible refine gate_callee (f := 65) rfl ?_); refine goesL_ (some 9) rfl rfl Try.func65 (by kernel_rfl) rfl #[.pointer (some ⟨g298, 0, none⟩)] rfl (by (try simp only [List.map_toArray, List.map_cons, List.map_nil]); first | done | rfl | (simp only [List.length_drop, List.length_take]; rfl)) ?_; (with_reducible refine (spec_l10DrawEntries.calls k g298 t295 t296 t297 t299 t302 t303 w _ ?side1 ?side2 A3.out).mono ?_); (case side1 => repeat (first | (with_reducible first | exact HI298.out | apply IsS98.alloc | apply IsS98.drewN | apply IsS98.drew | apply IsS98.set_1 | apply IsS98.set_2) | exact HI298.out)); (case side2 => repeat (first | (with_reducible first | exact HB.out | apply below_alloc | apply pw_below_drewN | apply below_drew1 | refine below_set ?_ (IsS98.ge HI298.out)) | exact HB.out)); rintro e w6 ⟨v300, rfl, ho0, hi, hb, hk⟩; refine ⟨_, rfl, ?_⟩; have n0_ := Aside0.mk (Kd.R_lower ho0 (below_size (by repeat (first | (with_reducible first | exact HB.out | apply below_alloc | apply pw_below_drewN | apply below_drew1 | refine below_set ?_ (IsS98.ge HI298.out)) | exact HB.out)))); have n1_ := Aside0.mk (hb); have n2_ := Aside0.mk (hi); clear HB; clear HI298; have HO301 := n0_; have HB := n1_; have HI298 := n2_; clear n0_ n1_ n2_; (try clear hb); (try clear hb2); (try clear hk); (try clear hi); (try clear ho0); obtain ⟨Ao7, co7, eo7⟩ := Kd.R_slice HO301.out; subst eo7) | ((with_reducible refine gate_callee (f := 66) rfl ?_); refine goesL_ (some 15) rfl rfl Try.func66 (by kernel_rfl) rfl #[.pointer (some ⟨g298, 0, none⟩), .int .i64 (wrap64 ((t299.length : Int) + 2))] rfl (by (try simp only [List.map_toArray, List.map_cons, List.map_nil]); first | done | rfl | (simp only [List.length_drop, List.length_take]; rfl)) ?_; (with_reducible refine (spec_l1Next.calls g298 t295 t302 t303 (wrap64 ((t299.length : Int) + 2)) t304 t305 t306 w _ ?side1 ?side2 A4.out).mono ?_); (case side1 => repeat (first | (with_reducible first | exact HI298.out | apply IsS98.alloc | apply IsS98.drewN | apply IsS98.drew | apply IsS98.set_1 | apply IsS98.set_2) | exact HI298.out)); (case side2 => repeat (first | (with_reducible first | exact HB.out | apply below_alloc | apply pw_below_drewN | apply below_drew1 | refine below_set ?_ (IsS98.ge HI298.out)) | exact HB.out)); rintro e w8 ⟨rfl, hi, hb, hk⟩; refine ⟨_, rfl, ?_⟩; have n0_ := Aside0.mk (Kd.R_mono (Kd.R_keep (IsS98.apart (show IsS98 w _ g298 t295 t302 t303 from by repeat (first | (with_reducible first | exact HI298.out | apply IsS98.alloc | apply IsS98.drewN | apply IsS98.drew | apply IsS98.set_1 | apply IsS98.set_2) | exact HI298.out)) (by (with_reducible repeat (first | apply Kd.R_alloc | apply Kd.R_drewN | apply Kd.R_drew)); exact HO301.out) (by decide)) hk (fun _ h => h.2)) (fun _ h => h.1)); have n1_ := Aside0.mk (hb); have n2_ := Aside0.mk (hi); clear HO301; clear HB; clear HI298; have HO301 := n0_; have HB := n1_; have HI298 := n2_; clear n0_ n1_ n2_; (try clear hb); (try clear hb2); (try clear hk); (try clear hi)))
  go_ret2
  exact ⟨_, by first | rfl | (simp [errW_none, errW_some] <;> rfl) | (simp [*, errW_none, errW_some] <;> rfl), by (with_reducible repeat (first | apply Kd.R_alloc | apply Kd.R_drewN | apply Kd.R_drew)); exact HO301.out, by repeat (first | (with_reducible first | exact HB.out | apply below_alloc | apply pw_below_drewN | apply below_drew1 | refine below_set ?_ (IsS98.ge HI298.out)) | exact HB.out)⟩

/-! ### impl_DirFind: function 38 -/
def impl_DirFind.l0 : Nat → ByteArray → List (S27) → Int → Int → Option (Int)
  | 0, _, _, _, _ => none
  | k + 1, x1, x7, x8, x9 => if x9 < x8 then (if 0 ≤ x9 then (if x9 < (x7.length : Int) then (if ((rd_T27 x7 x9).f1).toList = x1.toList then (some x9) else (impl_DirFind.l0 k x1 x7 x8 (wrap64 (x9 + 1)))) else (none)) else (none)) else (some (-1))
def impl_DirFind.f (k : Nat) (l0 : List (S27)) (a1 : ByteArray) : Option (Int) := impl_DirFind.l0 k a1 l0 (l0.length : Int) 0
theorem impl_DirFind.mono_l : ∀ k, (∀ y0 y1 y2 y3, LeO (impl_DirFind.l0 k y0 y1 y2 y3) (impl_DirFind.l0 (k + 1) y0 y1 y2 y3))
  | 0 => fun _ _ _ _ r h => by simp [impl_DirFind.l0] at h
  | k + 1 => by
    have ih0 := impl_DirFind.mono_l k
    · intro y0 y1 y2 y3
      unfold impl_DirFind.l0
      repeat' first
      | (with_reducible exact ih0 _ _ _ _)
      | (with_reducible exact LeO.refl _)
      | (with_reducible exact LeO.none _)
      | (with_reducible refine LeO.ite ?_ ?_)
      | (with_reducible refine LeO.bind ?_ (fun _ => ?_))
      | exact ih0 _ _ _ _
      | exact LeO.none _
      | refine LeO.ite ?_ ?_
      | refine LeO.bind ?_ (fun _ => ?_)
theorem impl_DirFind.mono : ∀ a0 a1 k, LeO (impl_DirFind.f k a0 a1) (impl_DirFind.f (k + 1) a0 a1) := by
  intro a0 a1 k
  have ih0 := impl_DirFind.mono_l k
  unfold impl_DirFind.f
  repeat' first
      | (with_reducible exact ih0 _ _ _ _)
      | (with_reducible exact LeO.refl _)
      | (with_reducible exact LeO.none _)
      | (with_reducible refine LeO.ite ?_ ?_)
      | (with_reducible refine LeO.bind ?_ (fun _ => ?_))
      | exact ih0 _ _ _ _
      | exact LeO.none _
      | refine LeO.ite ?_ ?_
      | refine LeO.bind ?_ (fun _ => ?_)
set_option maxHeartbeats 8000000 in
set_option maxRecDepth 100000 in
theorem impl_DirFind.calls (k : Nat) (A0 : Option Addr) (c0 : Nat) (l0 : List (S27)) (a1 : ByteArray) (r : Int) (w : World) (hr0 : Kd.C k27 w A0 l0.length l0) (hc0 : l0.length ≤ c0) (h : impl_DirFind.f k l0 a1 = some r) :
    Calls Try.prog 38 #[.slice A0 l0.length c0, .string a1] w fun e w' => e = .returned (.int .i64 r) ∧ Below w.heap.size w w' := by
  have hu27 := Try.underlying27
  have HR0 := Aside0.mk hr0
  have HC0 := Aside0.mk hc0
  clear hr0 hc0
  have HB := Aside0.mk (Below.refl w.heap.size w)
  have H : (impl_DirFind.l0 k a1 l0 (l0.length : Int) 0) = some r := h
  clear h
  have H' := Aside0.mk H
  clear H
  go_enter Try.func38, Try.ntmps38
  go_wp2
  go_loopg [9] k (fun kq v9 w' => ∃ (x9_1 : Int), v9 = .int .i64 x9_1 ∧ Aside0 (impl_DirFind.l0 kq a1 l0 (l0.length : Int) x9_1 = some r) ∧ Aside0 (kq ≤ k) ∧ Aside0 (Below w.heap.size w w'))
  case atStart => exact ⟨(0), (by first | rfl | (simp; done) | (simp [*]; done)), H', ⟨Nat.le_refl _⟩, ⟨by repeat (first | (with_reducible first | exact HB.out | apply below_alloc | apply pw_below_drewN | apply below_drew1) | exact HB.out)⟩⟩
  case round =>
    clear H'
    try clear p2
    obtain ⟨x9_1, rfl, HA, HK1, HB⟩ := hrel
    cases gk with
    | zero => exact absurd HA.out (by simp [impl_DirFind.l0])
    | succ k1 =>
      have H := HA.out
      clear HA
      simp only [impl_DirFind.l0] at H
      by_cases c3 : x9_1 < (l0.length : Int)
      · rw [if_pos c3] at H
        have c3b0 : decide (x9_1 < (l0.length : Int)) = true := decide_eq_true c3
        clear c3
        by_cases c4 : 0 ≤ x9_1
        · rw [if_pos c4] at H
          have c4b0 : decide (0 ≤ x9_1) = true := decide_eq_true c4
          clear c4
          by_cases c5 : x9_1 < (l0.length : Int)
          · rw [if_pos c5] at H
            have c5b0 : decide (x9_1 < (l0.length : Int)) = true := decide_eq_true c5
            clear c5
            by_cases c6 : ((rd_T27 l0 x9_1).f1).toList = a1.toList
            · rw [if_pos c6] at H
              have c6b0 : (((rd_T27 l0 x9_1).f1).toList == a1.toList) = true := beq_iff_eq.mpr c6
              have c6b1 : (((rd_T27 l0 x9_1).f1).toList != a1.toList) = false := bne_eq_false_iff_eq.mpr c6
              clear c6
              obtain rfl := Option.some.inj H
              have p307 : 0 ≤ (x9_1 : Int) := of_decide_eq_true (by first | (with_reducible assumption) | assumption)
              have q307 : x9_1 < (l0.length : Int) := of_decide_eq_true (by first | (with_reducible assumption) | assumption)
              obtain ⟨ad307, e307, hx307_0, hx307_1⟩ := at_T27 HR0.out x9_1 p307 q307
              cases e307
              replace hx307_0 := (HB.out.cell (World.block_lt_of_cell? w _ hx307_0)).trans hx307_0
              replace hx307_1 := (HB.out.cell (World.block_lt_of_cell? w _ hx307_1)).trans hx307_1
              replace p307 := eq_true p307
              replace q307 := eq_true q307
              go_wp2_with (first | ((with_reducible refine gate_dst (N := 6) rfl ?_); refine box_event ?hg (N := 6) ?hd (cs := #[.int .i64 0, .string (⟨#[]⟩ : ByteArray)]) (t := 27) ?hr ?_; (case hd => rfl); (case hg => rfl); (case hr => first | (go_simp; done) | (go_simp; rfl)); intro gb308 hg w7 hbox hb; have n0_ := Aside0.mk (below_step (by repeat (first | (with_reducible first | exact HB.out | apply below_alloc | apply pw_below_drewN | apply below_drew1) | exact HB.out)) hb); have n1_ := Aside0.mk (hbox); have n2_ := Aside0.mk ((by rw [hg]; exact (below_size (by repeat (first | (with_reducible first | exact HB.out | apply below_alloc | apply pw_below_drewN | apply below_drew1) | exact HB.out))) : w.heap.size ≤ gb308)); have n3_ := Aside0.mk ((by rw [hg]; exact (below_size (by repeat (first | (with_reducible first | exact HB.out | apply below_alloc | apply pw_below_drewN | apply below_drew1) | exact HB.out))) : w.heap.size ≤ gb308)); clear HB; have HB := n0_; have BK308 := n1_; have GW308 := n2_; have GE308 := n3_; clear n0_ n1_ n2_ n3_; clear hb hbox hg; have hcz8_0 : w7.cell? ⟨gb308, 0, none⟩ = some (.int .i64 0) := (blk_cell BK308.out 0).trans rfl; have hcz8_1 : w7.cell? ⟨gb308, 1, none⟩ = some (.string (⟨#[]⟩ : ByteArray)) := (blk_cell BK308.out 1).trans rfl; have hfz8_0 := blk_frozen BK308.out 0; have hfz8_1 := blk_frozen BK308.out 1))
              go_ret
              exact ⟨by first | rfl | (simp [errW_none, errW_some] <;> rfl) | (simp [*, errW_none, errW_some] <;> rfl), by repeat (first | (with_reducible first | exact HB.out | apply below_alloc | apply pw_below_drewN | apply below_drew1 | refine below_set ?_ GE308.out) | exact HB.out)⟩
            · rw [if_neg c6] at H
              have c6b0 : (((rd_T27 l0 x9_1).f1).toList == a1.toList) = false := beq_eq_false_iff_ne.mpr c6
              have c6b1 : (((rd_T27 l0 x9_1).f1).toList != a1.toList) = true := bne_iff_ne.mpr c6
              have H' := Aside0.mk H
              clear H
              have p307 : 0 ≤ (x9_1 : Int) := of_decide_eq_true (by first | (with_reducible assumption) | assumption)
              have q307 : x9_1 < (l0.length : Int) := of_decide_eq_true (by first | (with_reducible assumption) | assumption)
              obtain ⟨ad307, e307, hx307_0, hx307_1⟩ := at_T27 HR0.out x9_1 p307 q307
              cases e307
              replace hx307_0 := (HB.out.cell (World.block_lt_of_cell? w _ hx307_0)).trans hx307_0
              replace hx307_1 := (HB.out.cell (World.block_lt_of_cell? w _ hx307_1)).trans hx307_1
              replace p307 := eq_true p307
              replace q307 := eq_true q307
              go_wp2_with (first | ((with_reducible refine gate_dst (N := 6) rfl ?_); refine box_event ?hg (N := 6) ?hd (cs := #[.int .i64 0, .string (⟨#[]⟩ : ByteArray)]) (t := 27) ?hr ?_; (case hd => rfl); (case hg => rfl); (case hr => first | (go_simp; done) | (go_simp; rfl)); intro gb308 hg w9 hbox hb; have n0_ := Aside0.mk (below_step (by repeat (first | (with_reducible first | exact HB.out | apply below_alloc | apply pw_below_drewN | apply below_drew1) | exact HB.out)) hb); have n1_ := Aside0.mk (hbox); have n2_ := Aside0.mk ((by rw [hg]; exact (below_size (by repeat (first | (with_reducible first | exact HB.out | apply below_alloc | apply pw_below_drewN | apply below_drew1) | exact HB.out))) : w.heap.size ≤ gb308)); have n3_ := Aside0.mk ((by rw [hg]; exact (below_size (by repeat (first | (with_reducible first | exact HB.out | apply below_alloc | apply pw_below_drewN | apply below_drew1) | exact HB.out))) : w.heap.size ≤ gb308)); clear HB; have HB := n0_; have BK308 := n1_; have GW308 := n2_; have GE308 := n3_; clear n0_ n1_ n2_ n3_; clear hb hbox hg; have hcz10_0 : w9.cell? ⟨gb308, 0, none⟩ = some (.int .i64 0) := (blk_cell BK308.out 0).trans rfl; have hcz10_1 : w9.cell? ⟨gb308, 1, none⟩ = some (.string (⟨#[]⟩ : ByteArray)) := (blk_cell BK308.out 1).trans rfl; have hfz10_0 := blk_frozen BK308.out 0; have hfz10_1 := blk_frozen BK308.out 1))
              go_roundg k1
              case measure => have := HK1.out; omega
              case rel => exact ⟨(wrap64 (x9_1 + 1)), (by first | rfl | (simp; done) | (simp [*]; done)), H', ⟨by have := HK1.out; omega⟩, ⟨by repeat (first | (with_reducible first | exact HB.out | apply below_alloc | apply pw_below_drewN | apply below_drew1 | refine below_set ?_ GE308.out) | exact HB.out)⟩⟩
          · rw [if_neg c5] at H
            exact absurd H (by simp)
        · rw [if_neg c4] at H
          exact absurd H (by simp)
      · rw [if_neg c3] at H
        have c3b0 : decide (x9_1 < (l0.length : Int)) = false := decide_eq_false c3
        clear c3
        obtain rfl := Option.some.inj H
        go_wp2
        go_ret
        exact ⟨by first | rfl | (simp [errW_none, errW_some] <;> rfl) | (simp [*, errW_none, errW_some] <;> rfl), by repeat (first | (with_reducible first | exact HB.out | apply below_alloc | apply pw_below_drewN | apply below_drew1) | exact HB.out)⟩

/-! ### laws_lwAt: function 39 -/
def laws_lwAt.f (l0 : List Int) (a1 : Int) (a2 : Int) : Option (Int) := if a2 ≤ 1 then (some 0) else (if (l0.length : Int) = 0 then (if a2 = 0 then (none) else (some (Int.tmod (wrap64 (a1 * 7)) a2))) else (if 0 ≤ (Int.tmod a1 (l0.length : Int)) then (if (Int.tmod a1 (l0.length : Int)) < (l0.length : Int) then (if a2 > 200 then (if 0 ≤ (Int.tmod (wrap64 (a1 + 1)) (l0.length : Int)) then (if (Int.tmod (wrap64 (a1 + 1)) (l0.length : Int)) < (l0.length : Int) then (if a2 = 0 then (none) else (some (Int.tmod (wrap64 ((wrap64 ((wrap64 ((wrap64 (rd l0 (Int.tmod a1 (l0.length : Int)))) + (wrap64 (Int.tdiv a1 (l0.length : Int))))) * 37)) + (wrap64 (rd l0 (Int.tmod (wrap64 (a1 + 1)) (l0.length : Int)))))) a2))) else (none)) else (none)) else (if a2 = 0 then (none) else (some (Int.tmod (wrap64 ((wrap64 (rd l0 (Int.tmod a1 (l0.length : Int)))) + (wrap64 (Int.tdiv a1 (l0.length : Int))))) a2)))) else (none)) else (none)))
set_option maxHeartbeats 8000000 in
set_option maxRecDepth 100000 in
theorem laws_lwAt.calls (A0 : Option Addr) (c0 : Nat) (l0 : List Int) (a1 : Int) (a2 : Int) (r : Int) (w : World) (hr0 : Kd.C (Kd.int .u8) w A0 l0.length l0) (hc0 : l0.length ≤ c0) (h : laws_lwAt.f l0 a1 a2 = some r) :
    Calls Try.prog 39 #[.slice A0 l0.length c0, .int .i64 a1, .int .i64 a2] w fun e w' => e = .returned (.int .i64 r) ∧ Drawn0 w w' := by
  have HR0 := Aside0.mk hr0
  have HC0 := Aside0.mk hc0
  clear hr0 hc0
  have H : (if a2 ≤ 1 then (some 0) else (if (l0.length : Int) = 0 then (if a2 = 0 then (none) else (some (Int.tmod (wrap64 (a1 * 7)) a2))) else (if 0 ≤ (Int.tmod a1 (l0.length : Int)) then (if (Int.tmod a1 (l0.length : Int)) < (l0.length : Int) then (if a2 > 200 then (if 0 ≤ (Int.tmod (wrap64 (a1 + 1)) (l0.length : Int)) then (if (Int.tmod (wrap64 (a1 + 1)) (l0.length : Int)) < (l0.length : Int) then (if a2 = 0 then (none) else (some (Int.tmod (wrap64 ((wrap64 ((wrap64 ((wrap64 (rd l0 (Int.tmod a1 (l0.length : Int)))) + (wrap64 (Int.tdiv a1 (l0.length : Int))))) * 37)) + (wrap64 (rd l0 (Int.tmod (wrap64 (a1 + 1)) (l0.length : Int)))))) a2))) else (none)) else (none)) else (if a2 = 0 then (none) else (some (Int.tmod (wrap64 ((wrap64 (rd l0 (Int.tmod a1 (l0.length : Int)))) + (wrap64 (Int.tdiv a1 (l0.length : Int))))) a2)))) else (none)) else (none)))) = some r := h
  clear h
  by_cases c4 : a2 ≤ 1
  · rw [if_pos c4] at H
    have c4b0 : decide (a2 ≤ 1) = true := decide_eq_true c4
    clear c4
    obtain rfl := Option.some.inj H
    go_enter Try.func39, Try.ntmps39
    go_wp2
    repeat (go_quiet (fail); try go_wp2)
    go_ret
    exact ⟨by first | rfl | (simp; done) | (simp [*]; done), by repeat (first | exact Drawn0.refl _ | apply Drawn0.step)⟩
  · rw [if_neg c4] at H
    have c4b0 : decide (a2 ≤ 1) = false := decide_eq_false c4
    clear c4
    by_cases c5 : (l0.length : Int) = 0
    · rw [if_pos c5] at H
      have c5b0 : ((l0.length : Int) == 0) = true := beq_iff_eq.mpr c5
      have c5b1 : ((l0.length : Int) != 0) = false := bne_eq_false_iff_eq.mpr c5
      clear c5
      by_cases c6 : a2 = 0
      · rw [if_pos c6] at H
        exact absurd H (by simp)
      · rw [if_neg c6] at H
        have c6b0 : (a2 == 0) = false := beq_eq_false_iff_ne.mpr c6
        have c6b1 : (a2 != 0) = true := bne_iff_ne.mpr c6
        obtain rfl := Option.some.inj H
        go_enter Try.func39, Try.ntmps39
        go_wp2
        repeat (go_quiet (fail); try go_wp2)
        go_ret
        exact ⟨by first | rfl | (simp; done) | (simp [*]; done), by repeat (first | exact Drawn0.refl _ | apply Drawn0.step)⟩
    · rw [if_neg c5] at H
      have c5b0 : ((l0.length : Int) == 0) = false := beq_eq_false_iff_ne.mpr c5
      have c5b1 : ((l0.length : Int) != 0) = true := bne_iff_ne.mpr c5
      have c5b2 : ¬ (l0 = []) := fun h_ => c5 (by rw [h_]; rfl)
      obtain ⟨ji7, hji7⟩ : ∃ j_ : Int, (Int.tmod a1 (l0.length : Int)) = j_ := ⟨_, rfl⟩
      replace H : (if 0 ≤ (ji7) then (if (ji7) < (l0.length : Int) then (if a2 > 200 then (if 0 ≤ (Int.tmod (wrap64 (a1 + 1)) (l0.length : Int)) then (if (Int.tmod (wrap64 (a1 + 1)) (l0.length : Int)) < (l0.length : Int) then (if a2 = 0 then (none) else (some (Int.tmod (wrap64 ((wrap64 ((wrap64 ((wrap64 (rd l0 (ji7))) + (wrap64 (Int.tdiv a1 (l0.length : Int))))) * 37)) + (wrap64 (rd l0 (Int.tmod (wrap64 (a1 + 1)) (l0.length : Int)))))) a2))) else (none)) else (none)) else (if a2 = 0 then (none) else (some (Int.tmod (wrap64 ((wrap64 (rd l0 (ji7))) + (wrap64 (Int.tdiv a1 (l0.length : Int))))) a2)))) else (none)) else (none)) = some r := by first | (rw [hji7] at H; exact H) | (simp only [hji7] at H ⊢; exact H)
      by_cases c8 : 0 ≤ (ji7)
      · rw [if_pos c8] at H
        have c8b0 : decide (0 ≤ (ji7)) = true := decide_eq_true c8
        clear c8
        by_cases c9 : (ji7) < (l0.length : Int)
        · rw [if_pos c9] at H
          have c9b0 : decide ((ji7) < (l0.length : Int)) = true := decide_eq_true c9
          clear c9
          by_cases c10 : a2 > 200
          · rw [if_pos c10] at H
            have c10b0 : decide (200 < a2) = true := decide_eq_true c10
            clear c10
            obtain ⟨ji11, hji11⟩ : ∃ j_ : Int, (Int.tmod (wrap64 (a1 + 1)) (l0.length : Int)) = j_ := ⟨_, rfl⟩
            replace H : (if 0 ≤ (ji11) then (if (ji11) < (l0.length : Int) then (if a2 = 0 then (none) else (some (Int.tmod (wrap64 ((wrap64 ((wrap64 ((wrap64 (rd l0 (ji7))) + (wrap64 (Int.tdiv a1 (l0.length : Int))))) * 37)) + (wrap64 (rd l0 (ji11))))) a2))) else (none)) else (none)) = some r := by first | (rw [hji11] at H; exact H) | (simp only [hji11] at H ⊢; exact H)
            by_cases c12 : 0 ≤ (ji11)
            · rw [if_pos c12] at H
              have c12b0 : decide (0 ≤ (ji11)) = true := decide_eq_true c12
              clear c12
              by_cases c13 : (ji11) < (l0.length : Int)
              · rw [if_pos c13] at H
                have c13b0 : decide ((ji11) < (l0.length : Int)) = true := decide_eq_true c13
                clear c13
                by_cases c14 : a2 = 0
                · rw [if_pos c14] at H
                  exact absurd H (by simp)
                · rw [if_neg c14] at H
                  have c14b0 : (a2 == 0) = false := beq_eq_false_iff_ne.mpr c14
                  have c14b1 : (a2 != 0) = true := bne_iff_ne.mpr c14
                  obtain rfl := Option.some.inj H
                  have p309 : 0 ≤ ((ji7) : Int) := of_decide_eq_true (by first | (with_reducible assumption) | assumption)
                  have q309 : (ji7) < (l0.length : Int) := of_decide_eq_true (by first | (with_reducible assumption) | assumption)
                  obtain ⟨ad309, e309, hx309_0⟩ := Kd.at_int HR0.out (ji7) p309 q309
                  cases e309
                  replace p309 := eq_true p309
                  replace q309 := eq_true q309
                  have p310 : 0 ≤ ((ji11) : Int) := of_decide_eq_true (by first | (with_reducible assumption) | assumption)
                  have q310 : (ji11) < (l0.length : Int) := of_decide_eq_true (by first | (with_reducible assumption) | assumption)
                  obtain ⟨ad310, e310, hx310_0⟩ := Kd.at_int HR0.out (ji11) p310 q310
                  obtain rfl : ad309 = ad310 := (by injection e310)
                  replace p310 := eq_true p310
                  replace q310 := eq_true q310
                  go_enter Try.func39, Try.ntmps39
                  go_wp2
                  repeat (go_quiet (fail); try go_wp2)
                  go_ret
                  exact ⟨by first | rfl | (simp; done) | (simp only [← hji7, ← hji11] <;> (first | rfl | simp)) | (simp [*]; done), by repeat (first | exact Drawn0.refl _ | apply Drawn0.step)⟩
              · rw [if_neg c13] at H
                exact absurd H (by simp)
            · rw [if_neg c12] at H
              exact absurd H (by simp)
          · rw [if_neg c10] at H
            have c10b0 : decide (200 < a2) = false := decide_eq_false c10
            clear c10
            by_cases c15 : a2 = 0
            · rw [if_pos c15] at H
              exact absurd H (by simp)
            · rw [if_neg c15] at H
              have c15b0 : (a2 == 0) = false := beq_eq_false_iff_ne.mpr c15
              have c15b1 : (a2 != 0) = true := bne_iff_ne.mpr c15
              obtain rfl := Option.some.inj H
              have p309 : 0 ≤ ((ji7) : Int) := of_decide_eq_true (by first | (with_reducible assumption) | assumption)
              have q309 : (ji7) < (l0.length : Int) := of_decide_eq_true (by first | (with_reducible assumption) | assumption)
              obtain ⟨ad309, e309, hx309_0⟩ := Kd.at_int HR0.out (ji7) p309 q309
              cases e309
              replace p309 := eq_true p309
              replace q309 := eq_true q309
              go_enter Try.func39, Try.ntmps39
              go_wp2
              repeat (go_quiet (fail); try go_wp2)
              go_ret
              exact ⟨by first | rfl | (simp; done) | (simp only [← hji7] <;> (first | rfl | simp)) | (simp [*]; done), by repeat (first | exact Drawn0.refl _ | apply Drawn0.step)⟩
        · rw [if_neg c9] at H
          exact absurd H (by simp)
      · rw [if_neg c8] at H
        exact absurd H (by simp)

/-! ### impl_DirRemove: function 40 -/
def impl_DirRemove.f (l0 : List (S27)) (a1 : Int) : Option ((List (S27))) := (some (([] : List (S27)) : List (S27))).bind fun y311 => (if y311.length + l0.length < 5864062014805 then ((some (y311 ++ l0 : List (S27))).bind fun y314 => (if a1 < 0 then (some y314) else (if a1 ≥ (y314.length : Int) then (some y314) else (if 0 ≤ (wrap64 ((y314.length : Int) - 1)) then (if (wrap64 ((y314.length : Int) - 1)) < (y314.length : Int) then (if 0 ≤ a1 then (if a1 < (y314.length : Int) then (if (wrap64 ((y314.length : Int) - 1)) ≤ (y314.length : Int) then (some ((y314.set (a1 : Int).toNat (⟨(rd_T27 y314 (wrap64 ((y314.length : Int) - 1))).f0, (rd_T27 y314 (wrap64 ((y314.length : Int) - 1))).f1⟩ : S27)).take ((wrap64 ((y314.length : Int) - 1)) : Int).toNat)) else (none)) else (none)) else (none)) else (none)) else (none))))) else (none))
set_option maxHeartbeats 8000000 in
set_option maxRecDepth 100000 in
theorem impl_DirRemove.calls (A0 : Option Addr) (c0 : Nat) (l0 : List (S27)) (a1 : Int) (r : List (S27)) (w : World) (hr0 : Kd.C k27 w A0 l0.length l0) (hc0 : l0.length ≤ c0) (h : impl_DirRemove.f l0 a1 = some r) :
    Calls Try.prog 40 #[.slice A0 l0.length c0, .int .i64 a1] w fun e w' => ∃ v0_ : Value, e = .returned (v0_) ∧ Kd.R k27 27 w' w.heap.size (fun _ => True) v0_ r ∧ Below w.heap.size w w' := by
  have hu27 := Try.underlying27
  have HR0 := Aside0.mk hr0
  have HC0 := Aside0.mk hc0
  clear hr0 hc0
  have HB := Aside0.mk (Below.refl w.heap.size w)
  have H : ((some (([] : List (S27)) : List (S27))).bind fun y311 => (if y311.length + l0.length < 5864062014805 then ((some (y311 ++ l0 : List (S27))).bind fun y314 => (if a1 < 0 then (some y314) else (if a1 ≥ (y314.length : Int) then (some y314) else (if 0 ≤ (wrap64 ((y314.length : Int) - 1)) then (if (wrap64 ((y314.length : Int) - 1)) < (y314.length : Int) then (if 0 ≤ a1 then (if a1 < (y314.length : Int) then (if (wrap64 ((y314.length : Int) - 1)) ≤ (y314.length : Int) then (some ((y314.set (a1 : Int).toNat (⟨(rd_T27 y314 (wrap64 ((y314.length : Int) - 1))).f0, (rd_T27 y314 (wrap64 ((y314.length : Int) - 1))).f1⟩ : S27)).take ((wrap64 ((y314.length : Int) - 1)) : Int).toNat)) else (none)) else (none)) else (none)) else (none)) else (none))))) else (none))) = some r := h
  clear h
  obtain ⟨y311, hy311⟩ : ∃ y_ : List (S27), y_ = (([] : List (S27))) := ⟨_, rfl⟩
  replace H : (if y311.length + l0.length < 5864062014805 then ((some (y311 ++ l0 : List (S27))).bind fun y314 => (if a1 < 0 then (some y314) else (if a1 ≥ (y314.length : Int) then (some y314) else (if 0 ≤ (wrap64 ((y314.length : Int) - 1)) then (if (wrap64 ((y314.length : Int) - 1)) < (y314.length : Int) then (if 0 ≤ a1 then (if a1 < (y314.length : Int) then (if (wrap64 ((y314.length : Int) - 1)) ≤ (y314.length : Int) then (some ((y314.set (a1 : Int).toNat (⟨(rd_T27 y314 (wrap64 ((y314.length : Int) - 1))).f0, (rd_T27 y314 (wrap64 ((y314.length : Int) - 1))).f1⟩ : S27)).take ((wrap64 ((y314.length : Int) - 1)) : Int).toNat)) else (none)) else (none)) else (none)) else (none)) else (none))))) else (none)) = some r := by first | (rw [hy311]; with_reducible exact H) | (have H2_ := (Option.bind_some _ _).symm.trans H; rw [hy311]; with_reducible exact H2_) | (have H2_ := (Option.bind_some _ _).symm.trans H; with_reducible exact H2_) | with_reducible exact H | (rw [hy311]; exact H) | exact H
  have Ny311 := Aside0.mk hy311
  clear hy311
  by_cases c3 : y311.length + l0.length < 5864062014805
  · rw [if_pos c3] at H
    have LMc3 := Aside0.mk c3
    clear c3
    obtain ⟨y314, hy314⟩ : ∃ y_ : List (S27), y_ = (y311 ++ l0) := ⟨_, rfl⟩
    replace H : (if a1 < 0 then (some y314) else (if a1 ≥ (y314.length : Int) then (some y314) else (if 0 ≤ (wrap64 ((y314.length : Int) - 1)) then (if (wrap64 ((y314.length : Int) - 1)) < (y314.length : Int) then (if 0 ≤ a1 then (if a1 < (y314.length : Int) then (if (wrap64 ((y314.length : Int) - 1)) ≤ (y314.length : Int) then (some ((y314.set (a1 : Int).toNat (⟨(rd_T27 y314 (wrap64 ((y314.length : Int) - 1))).f0, (rd_T27 y314 (wrap64 ((y314.length : Int) - 1))).f1⟩ : S27)).take ((wrap64 ((y314.length : Int) - 1)) : Int).toNat)) else (none)) else (none)) else (none)) else (none)) else (none)))) = some r := by first | (rw [hy314]; with_reducible exact H) | (have H2_ := (Option.bind_some _ _).symm.trans H; rw [hy314]; with_reducible exact H2_) | (have H2_ := (Option.bind_some _ _).symm.trans H; with_reducible exact H2_) | with_reducible exact H | (rw [hy314]; exact H) | exact H
    have Ny314 := Aside0.mk hy314
    clear hy314
    by_cases c4 : a1 < 0
    · rw [if_pos c4] at H
      have c4b0 : decide (a1 < 0) = true := decide_eq_true c4
      clear c4
      obtain rfl := Option.some.inj H
      go_enter Try.func40, Try.ntmps40
      go_wp2_with (first | ((with_reducible refine gate_dst (N := 7) rfl ?_); refine Kd.R_lit k27 _ 27 ?hg (N := 7) ?hd (xs := ([] : List (S27))) (inner := []) (ok := fun _ => True) (okp := fun _ => True) ?hr ?hp (fun _ hk => hk) trivial (Below.refl _ _) (Nat.le_refl _) (by simp) ?_; (case hd => rfl); (case hg => rfl); (case hr => first | (go_simp; done) | (go_simp; rfl)); (case hp => exact (Reps.none _ _)); intro v312 w5 ho6 hb hg_ hnew_; clear hg_ hnew_; (first | rw [← Ny311.out] at ho6 | (simp only [Int.reduceToNat] at ho6; rw [← Ny311.out] at ho6)); have n0_ := Aside0.mk (Kd.R_lower ho6 (below_size (by repeat (first | (with_reducible first | exact HB.out | apply below_alloc | apply pw_below_drewN | apply below_drew1) | exact HB.out)))); have n1_ := Aside0.mk (below_step (by repeat (first | (with_reducible first | exact HB.out | apply below_alloc | apply pw_below_drewN | apply below_drew1) | exact HB.out)) hb); clear HB; have HO313 := n0_; have HB := n1_; clear n0_ n1_; clear hb ho6) | ((with_reducible refine gate_builtin (b := .append) (xs := #[.tmp 7, .tmp 8]) rfl ?_); at_builtin; refine Kd.R_append_rows k27 (w0 := w) w.heap.size rfl (.tmp 7) (.tmp 8) 41 27 (.agg #[(.int .i64 0), (.string ⟨#[]⟩)]) 24 rfl Try.underlying41 info27 rfl (by decide) (by omega) v312 y311 l0 _ _ _ (fun _ => True) (fun _ => False) rfl rfl ?aO ?aR (fun _ _ h => h) (fun _ h => h.elim) ?aF ?aB ?aS ?aL ?_; (case aR => repeat (first | exact (Kd.C_below HR0.out HB.out) | (with_reducible refine Kd.C_alloc ?_ _) | (with_reducible refine Kd.C_drewN ?_ _) | (with_reducible refine Kd.C_drew ?_))); (case aB => exact (by repeat (first | (with_reducible first | exact HB.out | apply below_alloc | apply pw_below_drewN | apply below_drew1) | exact HB.out))); (case aF => exact (fun _ _ => trivial)); (case aO => exact (by (with_reducible repeat (first | apply Kd.R_alloc | apply Kd.R_drewN | apply Kd.R_drew)); exact HO313.out)); (case aS => exact (below_size (by repeat (first | (with_reducible first | exact HB.out | apply below_alloc | apply pw_below_drewN | apply below_drew1) | exact HB.out)))); (case aL => have := LMc3.out; omega); intro v315 w7 ho hb hg hat; rw [← Ny314.out] at ho; have n0_ := Aside0.mk (hb); have n1_ := Aside0.mk (ho); clear HB; clear HO313; have HB := n0_; have HO316 := n1_; clear n0_ n1_; clear ho hb hg hat; obtain ⟨Ao8, co8, eo8⟩ := Kd.R_slice HO316.out; subst eo8))
      go_ret
      exact ⟨_, by first | rfl | (simp [errW_none, errW_some] <;> rfl) | (simp [*, errW_none, errW_some] <;> rfl), by (with_reducible repeat (first | apply Kd.R_alloc | apply Kd.R_drewN | apply Kd.R_drew)); exact HO316.out, by repeat (first | (with_reducible first | exact HB.out | apply below_alloc | apply pw_below_drewN | apply below_drew1) | exact HB.out)⟩
    · rw [if_neg c4] at H
      have c4b0 : decide (a1 < 0) = false := decide_eq_false c4
      clear c4
      by_cases c9 : a1 ≥ (y314.length : Int)
      · rw [if_pos c9] at H
        have c9b0 : decide ((y314.length : Int) ≤ a1) = true := decide_eq_true c9
        clear c9
        obtain rfl := Option.some.inj H
        go_enter Try.func40, Try.ntmps40
        go_wp2_with (first | ((with_reducible refine gate_dst (N := 7) rfl ?_); refine Kd.R_lit k27 _ 27 ?hg (N := 7) ?hd (xs := ([] : List (S27))) (inner := []) (ok := fun _ => True) (okp := fun _ => True) ?hr ?hp (fun _ hk => hk) trivial (Below.refl _ _) (Nat.le_refl _) (by simp) ?_; (case hd => rfl); (case hg => rfl); (case hr => first | (go_simp; done) | (go_simp; rfl)); (case hp => exact (Reps.none _ _)); intro v312 w10 ho11 hb hg_ hnew_; clear hg_ hnew_; (first | rw [← Ny311.out] at ho11 | (simp only [Int.reduceToNat] at ho11; rw [← Ny311.out] at ho11)); have n0_ := Aside0.mk (Kd.R_lower ho11 (below_size (by repeat (first | (with_reducible first | exact HB.out | apply below_alloc | apply pw_below_drewN | apply below_drew1) | exact HB.out)))); have n1_ := Aside0.mk (below_step (by repeat (first | (with_reducible first | exact HB.out | apply below_alloc | apply pw_below_drewN | apply below_drew1) | exact HB.out)) hb); clear HB; have HO313 := n0_; have HB := n1_; clear n0_ n1_; clear hb ho11) | ((with_reducible refine gate_builtin (b := .append) (xs := #[.tmp 7, .tmp 8]) rfl ?_); at_builtin; refine Kd.R_append_rows k27 (w0 := w) w.heap.size rfl (.tmp 7) (.tmp 8) 41 27 (.agg #[(.int .i64 0), (.string ⟨#[]⟩)]) 24 rfl Try.underlying41 info27 rfl (by decide) (by omega) v312 y311 l0 _ _ _ (fun _ => True) (fun _ => False) rfl rfl ?aO ?aR (fun _ _ h => h) (fun _ h => h.elim) ?aF ?aB ?aS ?aL ?_; (case aR => repeat (first | exact (Kd.C_below HR0.out HB.out) | (with_reducible refine Kd.C_alloc ?_ _) | (with_reducible refine Kd.C_drewN ?_ _) | (with_reducible refine Kd.C_drew ?_))); (case aB => exact (by repeat (first | (with_reducible first | exact HB.out | apply below_alloc | apply pw_below_drewN | apply below_drew1) | exact HB.out))); (case aF => exact (fun _ _ => trivial)); (case aO => exact (by (with_reducible repeat (first | apply Kd.R_alloc | apply Kd.R_drewN | apply Kd.R_drew)); exact HO313.out)); (case aS => exact (below_size (by repeat (first | (with_reducible first | exact HB.out | apply below_alloc | apply pw_below_drewN | apply below_drew1) | exact HB.out)))); (case aL => have := LMc3.out; omega); intro v315 w12 ho hb hg hat; rw [← Ny314.out] at ho; have n0_ := Aside0.mk (hb); have n1_ := Aside0.mk (ho); clear HB; clear HO313; have HB := n0_; have HO316 := n1_; clear n0_ n1_; clear ho hb hg hat; obtain ⟨Ao13, co13, eo13⟩ := Kd.R_slice HO316.out; subst eo13))
        go_ret
        exact ⟨_, by first | rfl | (simp [errW_none, errW_some] <;> rfl) | (simp [*, errW_none, errW_some] <;> rfl), by (with_reducible repeat (first | apply Kd.R_alloc | apply Kd.R_drewN | apply Kd.R_drew)); exact HO316.out, by repeat (first | (with_reducible first | exact HB.out | apply below_alloc | apply pw_below_drewN | apply below_drew1) | exact HB.out)⟩
      · rw [if_neg c9] at H
        have c9b0 : decide ((y314.length : Int) ≤ a1) = false := decide_eq_false c9
        clear c9
        obtain ⟨ji14, hji14⟩ : ∃ j_ : Int, (wrap64 ((y314.length : Int) - 1)) = j_ := ⟨_, rfl⟩
        replace H : (if 0 ≤ (ji14) then (if (ji14) < (y314.length : Int) then (if 0 ≤ a1 then (if a1 < (y314.length : Int) then (if (ji14) ≤ (y314.length : Int) then (some ((y314.set (a1 : Int).toNat (⟨(rd_T27 y314 (ji14)).f0, (rd_T27 y314 (ji14)).f1⟩ : S27)).take ((ji14) : Int).toNat)) else (none)) else (none)) else (none)) else (none)) else (none)) = some r := by first | (rw [hji14] at H; exact H) | (simp only [hji14] at H ⊢; exact H)
        have hji14w : (IntKind.i64.wrap ((y314.length : Int) - 1)) = ji14 := (i64_w _).trans hji14
        by_cases c15 : 0 ≤ (ji14)
        · rw [if_pos c15] at H
          have c15b0 : decide (0 ≤ (ji14)) = true := decide_eq_true c15
          clear c15
          by_cases c16 : (ji14) < (y314.length : Int)
          · rw [if_pos c16] at H
            have c16b0 : decide ((ji14) < (y314.length : Int)) = true := decide_eq_true c16
            clear c16
            by_cases c17 : 0 ≤ a1
            · rw [if_pos c17] at H
              have c17b0 : decide (0 ≤ a1) = true := decide_eq_true c17
              clear c17
              by_cases c18 : a1 < (y314.length : Int)
              · rw [if_pos c18] at H
                have c18b0 : decide (a1 < (y314.length : Int)) = true := decide_eq_true c18
                clear c18
                obtain ⟨y318, hy318⟩ : ∃ y_ : List (S27), y_ = (y314.set (a1 : Int).toNat (⟨(rd_T27 y314 (ji14)).f0, (rd_T27 y314 (ji14)).f1⟩ : S27)) := ⟨_, rfl⟩
                replace H : (if (ji14) ≤ (y314.length : Int) then (some (y318.take ((ji14) : Int).toNat)) else (none)) = some r := by first | (rw [hy318]; with_reducible exact H) | (have H2_ := (Option.bind_some _ _).symm.trans H; rw [hy318]; with_reducible exact H2_) | (have H2_ := (Option.bind_some _ _).symm.trans H; with_reducible exact H2_) | with_reducible exact H | (rw [hy318]; exact H) | exact H
                have Ny318 := Aside0.mk hy318
                clear hy318
                by_cases c20 : (ji14) ≤ (y314.length : Int)
                · rw [if_pos c20] at H
                  have c20b0 := eq_true c20
                  have c20b1 : decide ((ji14) ≤ (y314.length : Int)) = true := decide_eq_true c20
                  clear c20
                  obtain ⟨y319, hy319⟩ : ∃ y_ : List (S27), y_ = (y318.take ((ji14) : Int).toNat) := ⟨_, rfl⟩
                  replace H : (some y319) = some r := by first | (rw [hy319]; with_reducible exact H) | (have H2_ := (Option.bind_some _ _).symm.trans H; rw [hy319]; with_reducible exact H2_) | (have H2_ := (Option.bind_some _ _).symm.trans H; with_reducible exact H2_) | with_reducible exact H | (rw [hy319]; exact H) | exact H
                  have Ny319 := Aside0.mk hy319
                  clear hy319
                  obtain rfl := Option.some.inj H
                  go_enter Try.func40, Try.ntmps40
                  go_wp2_with (first | ((with_reducible refine gate_dst (N := 7) rfl ?_); refine Kd.R_lit k27 _ 27 ?hg (N := 7) ?hd (xs := ([] : List (S27))) (inner := []) (ok := fun _ => True) (okp := fun _ => True) ?hr ?hp (fun _ hk => hk) trivial (Below.refl _ _) (Nat.le_refl _) (by simp) ?_; (case hd => rfl); (case hg => rfl); (case hr => first | (go_simp; done) | (go_simp; rfl)); (case hp => exact (Reps.none _ _)); intro v312 w21 ho22 hb hg_ hnew_; clear hg_ hnew_; (first | rw [← Ny311.out] at ho22 | (simp only [Int.reduceToNat] at ho22; rw [← Ny311.out] at ho22)); have n0_ := Aside0.mk (Kd.R_lower ho22 (below_size (by repeat (first | (with_reducible first | exact HB.out | apply below_alloc | apply pw_below_drewN | apply below_drew1) | exact HB.out)))); have n1_ := Aside0.mk (below_step (by repeat (first | (with_reducible first | exact HB.out | apply below_alloc | apply pw_below_drewN | apply below_drew1) | exact HB.out)) hb); clear HB; have HO313 := n0_; have HB := n1_; clear n0_ n1_; clear hb ho22) | ((with_reducible refine gate_builtin (b := .append) (xs := #[.tmp 7, .tmp 8]) rfl ?_); at_builtin; refine Kd.R_append_rows k27 (w0 := w) w.heap.size rfl (.tmp 7) (.tmp 8) 41 27 (.agg #[(.int .i64 0), (.string ⟨#[]⟩)]) 24 rfl Try.underlying41 info27 rfl (by decide) (by omega) v312 y311 l0 _ _ _ (fun _ => True) (fun _ => False) rfl rfl ?aO ?aR (fun _ _ h => h) (fun _ h => h.elim) ?aF ?aB ?aS ?aL ?_; (case aR => repeat (first | exact (Kd.C_below HR0.out HB.out) | (with_reducible refine Kd.C_alloc ?_ _) | (with_reducible refine Kd.C_drewN ?_ _) | (with_reducible refine Kd.C_drew ?_))); (case aB => exact (by repeat (first | (with_reducible first | exact HB.out | apply below_alloc | apply pw_below_drewN | apply below_drew1) | exact HB.out))); (case aF => exact (fun _ _ => trivial)); (case aO => exact (by (with_reducible repeat (first | apply Kd.R_alloc | apply Kd.R_drewN | apply Kd.R_drew)); exact HO313.out)); (case aS => exact (below_size (by repeat (first | (with_reducible first | exact HB.out | apply below_alloc | apply pw_below_drewN | apply below_drew1) | exact HB.out)))); (case aL => have := LMc3.out; omega); intro v315 w23 ho hb hg hat; rw [← Ny314.out] at ho; have n0_ := Aside0.mk (hb); have n1_ := Aside0.mk (ho); clear HB; clear HO313; have HB := n0_; have HO316 := n1_; clear n0_ n1_; clear ho hb hg hat; obtain ⟨Ao24, co24, eo24⟩ := Kd.R_slice HO316.out; subst eo24; have p317 : 0 ≤ ((ji14) : Int) := of_decide_eq_true (by first | (with_reducible assumption) | assumption); have q317 : (ji14) < (y314.length : Int) := of_decide_eq_true (by first | (with_reducible assumption) | assumption); obtain ⟨ad317, e317, hx317_0, hx317_1⟩ := at_T27 (Kd.R_reads' HO316.out).2.2 (ji14) p317 q317; cases e317; replace p317 := eq_true p317; replace q317 := eq_true q317; have p19 : 0 ≤ (a1 : Int) := of_decide_eq_true (by first | (with_reducible assumption) | assumption); have q19 : (a1 : Int) < ((y314.length : Int) : Int) := of_decide_eq_true (by first | (with_reducible assumption) | assumption); obtain ⟨go19, co19, eo19, gb19, gl19, cl19, HG19⟩ := Kd.R_form HO316.out (by omega); (first | cases eo19 | (injection eo19 with ea_ en_ ec_; (first | subst ea_ | (injection ea_ with ea_; subst ea_)); subst ec_; clear en_)); have GB19 := Aside0.mk gb19; have GG19 := Aside0.mk HG19; clear gb19 gl19 HG19; (first | simp only [add_plain] at hx317_0 | skip); (first | simp only [add_plain] at hx317_1 | skip); obtain ⟨ce19, hcl19, hM19, hcc19, hfr19⟩ := Kd.R_elem HO316.out z27 (a1 : Int) p19 q19; obtain rfl := k27_openM hM19; have hx19_0 : w23.cell? ⟨go19, (a1 : Int).toNat * 2, none⟩ = some (.int .i64 ((rd_T27 y314 a1).f0)) := hcc19 0 _ rfl; have hx19_1 : w23.cell? ⟨go19, (a1 : Int).toNat * 2 + 1, none⟩ = some (.string ((rd_T27 y314 a1).f1)) := hcc19 1 _ rfl; have hf19_0 : w23.frozen? ⟨go19, (a1 : Int).toNat * 2, none⟩ = false := hfr19 0; have hf19_1 : w23.frozen? ⟨go19, (a1 : Int).toNat * 2 + 1, none⟩ = false := hfr19 1; clear hcl19 hcc19 hfr19 hM19; replace p19 := eq_true p19; replace q19 := eq_true q19; have HX25 := Aside0.mk (show Kd.R k27 27 w23 w.heap.size (fun _ => True) (.slice (some ⟨go19, 0, none⟩) y314.length co24) y314 from (by (with_reducible repeat (first | apply Kd.R_alloc | apply Kd.R_drewN | apply Kd.R_drew)); exact HO316.out)); obtain ⟨ce25, hcl25, hM25, hcc25, hfr25⟩ := Kd.R_elem HX25.out z27 (a1 : Int) (of_decide_eq_true (by first | (with_reducible assumption) | assumption)) (by have h_ : (a1 : Int) < ((y314.length : Int) : Int) := of_decide_eq_true (by first | (with_reducible assumption) | assumption); first | exact h_ | (have e_ := (Kd.R_reads' HO316.out).1; omega) | simpa using h_); obtain rfl := k27_openM hM25; have HP25 := Kd.R_seg HX25.out (a1 : Int) (of_decide_eq_true (by first | (with_reducible assumption) | assumption)) (by have h_ : (a1 : Int) < ((y314.length : Int) : Int) := of_decide_eq_true (by first | (with_reducible assumption) | assumption); first | exact h_ | (have e_ := (Kd.R_reads' HO316.out).1; omega) | simpa using h_) (seg := [.int .i64 ((rd_T27 y314 (ji14)).f0), .string ((rd_T27 y314 (ji14)).f1)]) (j := 0) hcl25 hcc25 (show 2 ≤ 2 from by decide) (x' := (⟨(rd_T27 y314 (ji14)).f0, (rd_T27 y314 (ji14)).f1⟩ : S27)) (k27_mkM _ _ _ (⟨(rd_T27 y314 (ji14)).f0, (rd_T27 y314 (ji14)).f1⟩ : S27) ) (fun _ hk => hk); have hx25_0 := hcc25 0 _ rfl; (try simp only [show (k27).sz = 2 from rfl, Nat.mul_one, Nat.add_zero] at hx25_0); have hf25_0 := hfr25 0; (try simp only [show (k27).sz = 2 from rfl, Nat.mul_one, Nat.add_zero] at hf25_0); have hx25_1 := hcc25 1 _ rfl; (try simp only [show (k27).sz = 2 from rfl, Nat.mul_one, Nat.add_zero] at hx25_1); have hf25_1 := hfr25 1; (try simp only [show (k27).sz = 2 from rfl, Nat.mul_one, Nat.add_zero] at hf25_1); clear hcl25 hcc25 hfr25 hM25) | ((with_reducible refine gate_store (t := 27) (p := 27) rfl ?_); refine store_event (t := 27) (p := 27) (v := ?vo_w26) (w1 := ((w23.setCell ⟨go19, (a1 : Int).toNat * 2, none⟩ (.int .i64 ((rd_T27 y314 (ji14)).f0))).setCell ⟨go19, (a1 : Int).toNat * 2 + 1, none⟩ (.string ((rd_T27 y314 (ji14)).f1)))) ?hg ?ho ?hn ?hr ?_; (case ho => rfl); (case hg => rfl); (case hn => rfl); (case hr => first | (go_simp; done) | (go_simp; rfl)); intro w26 hw; have hg : w23.grownBy w26 (some go19) := (by rw [hw]; exact HP25.2); have hp_ : Kd.R k27 27 w26 w.heap.size (fun _ => True) (.slice (some ⟨go19, 0, none⟩) y314.length co24) y318 := (by rw [hw, Ny318.out]; exact HP25.1); clear HP25; have n0_ := Aside0.mk (hp_); have n1_ := Aside0.mk ((by rw [hw]; exact below_set (below_set (HB.out) GB19.out) GB19.out : Below w.heap.size w w26)); clear HO316; clear HB; have HO316 := n0_; have HB := n1_; clear n0_ n1_; clear hg hw hp_; have q27 : ((ji14) : Int) ≤ ((y314.length : Int) : Int) := of_decide_eq_true (by first | (with_reducible assumption) | assumption); obtain ⟨i027, hi027, _, hsz27, _⟩ := info_parts info27; have hcut27 := cut_to (P := Try.prog) 41 27 .i64 Try.underlying41 hi027 (some ⟨go19, 0, none⟩) y314.length co24 (ji14) (of_decide_eq_true (by first | (with_reducible assumption) | assumption)) q27 (Kd.R_reads' HO316.out).2.1; have hr27 := Kd.R_take (m := ((ji14) : Int).toNat) HO316.out (by have hl_ := (Kd.R_reads' HO316.out).1; omega); have hy27 : y319.length = ((ji14) : Int).toNat := (by have hl_ := (Kd.R_reads' HO316.out).1; rw [Ny319.out, List.length_take]; omega); rw [← Ny319.out] at hr27; rw [← hy27] at hr27 hcut27; clear hy27 hi027 hsz27 HO316; have HO321 := Aside0.mk hr27; clear hr27; replace q27 := eq_true q27))
                  go_ret
                  exact ⟨_, by first | rfl | (simp [errW_none, errW_some] <;> rfl) | (simp only [← hji14]; first | rfl | (simp [errW_none, errW_some] <;> rfl)) | (simp [*, errW_none, errW_some] <;> rfl), by (with_reducible repeat (first | apply Kd.R_alloc | apply Kd.R_drewN | apply Kd.R_drew)); exact HO321.out, by repeat (first | (with_reducible first | exact HB.out | apply below_alloc | apply pw_below_drewN | apply below_drew1) | exact HB.out)⟩
                · rw [if_neg c20] at H
                  exact absurd H (by simp)
              · rw [if_neg c18] at H
                exact absurd H (by simp)
            · rw [if_neg c17] at H
              exact absurd H (by simp)
          · rw [if_neg c16] at H
            exact absurd H (by simp)
        · rw [if_neg c15] at H
          exact absurd H (by simp)
  · rw [if_neg c3] at H
    exact absurd H (by simp)

end Go.Proofs.Ytiiifeajcigigaa.PFnDirs
