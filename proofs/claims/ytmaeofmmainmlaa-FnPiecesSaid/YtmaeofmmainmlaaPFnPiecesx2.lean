-- written by a program of this session (wip/src/print2.py)
import Derived.Test.YtmaeofmmainmlaaPFnPiecesx0
import Derived.Test.YtmaeofmmainmlaaPFnPiecesx1
namespace Go.Proofs.Ytmaeofmmainmlaa.PFnPieces
open Go.RowKit Go.Proofs.YtmaeofmmainmlaaW.PrintWords Go.Proofs.YtmaeofmmainmlaaW.PrintLast Go.Proofs.YtmaeofmmainmlaaW.PrintMore
attribute [local go_sem] max2_int min2_int max_two min_two max_three min_three max_four min_four   -- for this text's walks alone
set_option linter.unusedVariables false
set_option linter.unusedSimpArgs false

/-! ### spec_DrawSpans: function 47 -/
mutual
def spec_DrawSpans.j0 : Nat → Int → Int → Int → List Int → Int → Int → Option (Int × Int)
  | 0, _, _, _, _, _, _ => none
  | k + 1, x5, x6, x7, x127000, x127001, x127002 => if x7 = 1 then (spec_DrawSpans.j1 k (-1) x6 x7 x127000 x127001 x127002) else (spec_DrawSpans.j1 k x5 x6 x7 x127000 x127001 x127002)
def spec_DrawSpans.j1 : Nat → Int → Int → Int → List Int → Int → Int → Option (Int × Int)
  | 0, _, _, _, _, _, _ => none
  | k + 1, x5, x6, x7, x127000, x127001, x127002 => if x7 = 2 then ((spec_l1Chance.f x127000 x127001 x127002 2).bind fun bt139 => (if bt139.1 = true then (if x7 = 3 then ((spec_l1Next.f x127000 bt139.2.1 bt139.2.2 2).bind fun bt142 => (some (wrap64 (2560 + bt142.1), 0))) else (some (x5, (-1)))) else (if x7 = 3 then ((spec_l1Next.f x127000 bt139.2.1 bt139.2.2 2).bind fun bt145 => (some (wrap64 (2560 + bt145.1), 0))) else (some (x5, 9223372036854775807))))) else (if x7 = 3 then ((spec_l1Next.f x127000 x127001 x127002 2).bind fun bt148 => (some (wrap64 (2560 + bt148.1), 0))) else (some (x5, x6)))
end
def spec_DrawSpans.f (k : Nat) (l0 : List Int) : Option (Int × Int) := (spec_l1Source.f l0).bind fun bt123 => ((spec_l1Next.f bt123.1 bt123.2.1 bt123.2.2 400).bind fun bt127 => ((spec_l1Next.f bt123.1 bt127.2.1 bt127.2.2 300).bind fun bt130 => ((spec_l1Next.f bt123.1 bt130.2.1 bt130.2.2 12).bind fun bt133 => (if bt133.1 = 0 then ((spec_l1Next.f bt123.1 bt133.2.1 bt133.2.2 2).bind fun bt136 => (spec_DrawSpans.j0 k (wrap64 ((wrap64 (2560 - bt130.1)) + bt136.1)) bt130.1 bt133.1 bt123.1 bt136.2.1 bt136.2.2)) else (spec_DrawSpans.j0 k bt127.1 bt130.1 bt133.1 bt123.1 bt133.2.1 bt133.2.2)))))
theorem spec_DrawSpans.mono_l : ∀ k, (∀ y0 y1 y2 y3 y4 y5, LeO (spec_DrawSpans.j0 k y0 y1 y2 y3 y4 y5) (spec_DrawSpans.j0 (k + 1) y0 y1 y2 y3 y4 y5)) ∧ (∀ y0 y1 y2 y3 y4 y5, LeO (spec_DrawSpans.j1 k y0 y1 y2 y3 y4 y5) (spec_DrawSpans.j1 (k + 1) y0 y1 y2 y3 y4 y5))
  | 0 => ⟨fun _ _ _ _ _ _ r h => by simp [spec_DrawSpans.j0] at h, fun _ _ _ _ _ _ r h => by simp [spec_DrawSpans.j1] at h⟩
  | k + 1 => by
    obtain ⟨ih0, ih1⟩ := spec_DrawSpans.mono_l k
    refine ⟨?_, ?_⟩
    · intro y0 y1 y2 y3 y4 y5
      unfold spec_DrawSpans.j0
      repeat' first
      | (with_reducible exact ih0 _ _ _ _ _ _)
      | (with_reducible exact ih1 _ _ _ _ _ _)
      | (with_reducible exact LeO.refl _)
      | (with_reducible exact LeO.none _)
      | (with_reducible refine LeO.ite ?_ ?_)
      | (with_reducible refine LeO.bind ?_ (fun _ => ?_))
      | exact ih0 _ _ _ _ _ _
      | exact ih1 _ _ _ _ _ _
      | exact LeO.none _
      | refine LeO.ite ?_ ?_
      | refine LeO.bind ?_ (fun _ => ?_)
    · intro y0 y1 y2 y3 y4 y5
      unfold spec_DrawSpans.j1
      repeat' first
      | (with_reducible exact ih0 _ _ _ _ _ _)
      | (with_reducible exact ih1 _ _ _ _ _ _)
      | (with_reducible exact LeO.refl _)
      | (with_reducible exact LeO.none _)
      | (with_reducible refine LeO.ite ?_ ?_)
      | (with_reducible refine LeO.bind ?_ (fun _ => ?_))
      | exact ih0 _ _ _ _ _ _
      | exact ih1 _ _ _ _ _ _
      | exact LeO.none _
      | refine LeO.ite ?_ ?_
      | refine LeO.bind ?_ (fun _ => ?_)
theorem spec_DrawSpans.mono : ∀ a0 k, LeO (spec_DrawSpans.f k a0) (spec_DrawSpans.f (k + 1) a0) := by
  intro a0 k
  obtain ⟨ih0, ih1⟩ := spec_DrawSpans.mono_l k
  unfold spec_DrawSpans.f
  repeat' first
      | (with_reducible exact ih0 _ _ _ _ _ _)
      | (with_reducible exact ih1 _ _ _ _ _ _)
      | (with_reducible exact LeO.refl _)
      | (with_reducible exact LeO.none _)
      | (with_reducible refine LeO.ite ?_ ?_)
      | (with_reducible refine LeO.bind ?_ (fun _ => ?_))
      | exact ih0 _ _ _ _ _ _
      | exact ih1 _ _ _ _ _ _
      | exact LeO.none _
      | refine LeO.ite ?_ ?_
      | refine LeO.bind ?_ (fun _ => ?_)
set_option maxHeartbeats 8000000 in
set_option maxRecDepth 100000 in
theorem spec_DrawSpans.calls (k : Nat) (A0 : Option Addr) (c0 : Nat) (l0 : List Int) (r1 : Int) (r2 : Int) (w : World) (hr0 : Kd.C (Kd.int .u8) w A0 l0.length l0) (hc0 : l0.length ≤ c0) (h : spec_DrawSpans.f k l0 = some (r1, r2)) :
    Calls Try.prog 47 #[.slice A0 l0.length c0] w fun e w' => e = .returned (.tuple #[.int .i64 r1, .int .i64 r2]) ∧ Below w.heap.size w w' := by
  have HR0 := Aside0.mk hr0
  have HC0 := Aside0.mk hc0
  clear hr0 hc0
  have HB := Aside0.mk (Below.refl w.heap.size w)
  have H : ((spec_l1Source.f l0).bind fun bt123 => ((spec_l1Next.f bt123.1 bt123.2.1 bt123.2.2 400).bind fun bt127 => ((spec_l1Next.f bt123.1 bt127.2.1 bt127.2.2 300).bind fun bt130 => ((spec_l1Next.f bt123.1 bt130.2.1 bt130.2.2 12).bind fun bt133 => (if bt133.1 = 0 then ((spec_l1Next.f bt123.1 bt133.2.1 bt133.2.2 2).bind fun bt136 => (spec_DrawSpans.j0 k (wrap64 ((wrap64 (2560 - bt130.1)) + bt136.1)) bt130.1 bt133.1 bt123.1 bt136.2.1 bt136.2.2)) else (spec_DrawSpans.j0 k bt127.1 bt130.1 bt133.1 bt123.1 bt133.2.1 bt133.2.2)))))) = some (r1, r2) := h
  clear h
  replace H := Option.bind_eq_some_iff.mp H
  obtain ⟨⟨t123, t124, t125⟩, A20, H⟩ := H
  replace H : ((spec_l1Next.f t123 t124 t125 400).bind fun bt127 => ((spec_l1Next.f t123 bt127.2.1 bt127.2.2 300).bind fun bt130 => ((spec_l1Next.f t123 bt130.2.1 bt130.2.2 12).bind fun bt133 => (if bt133.1 = 0 then ((spec_l1Next.f t123 bt133.2.1 bt133.2.2 2).bind fun bt136 => (spec_DrawSpans.j0 k (wrap64 ((wrap64 (2560 - bt130.1)) + bt136.1)) bt130.1 bt133.1 t123 bt136.2.1 bt136.2.2)) else (spec_DrawSpans.j0 k bt127.1 bt130.1 bt133.1 t123 bt133.2.1 bt133.2.2))))) = some (r1, r2) := H
  have A2 := Aside0.mk A20
  clear A20
  replace H := Option.bind_eq_some_iff.mp H
  obtain ⟨⟨t127, t128, t129⟩, A30, H⟩ := H
  replace H : ((spec_l1Next.f t123 t128 t129 300).bind fun bt130 => ((spec_l1Next.f t123 bt130.2.1 bt130.2.2 12).bind fun bt133 => (if bt133.1 = 0 then ((spec_l1Next.f t123 bt133.2.1 bt133.2.2 2).bind fun bt136 => (spec_DrawSpans.j0 k (wrap64 ((wrap64 (2560 - bt130.1)) + bt136.1)) bt130.1 bt133.1 t123 bt136.2.1 bt136.2.2)) else (spec_DrawSpans.j0 k t127 bt130.1 bt133.1 t123 bt133.2.1 bt133.2.2)))) = some (r1, r2) := H
  have A3 := Aside0.mk A30
  clear A30
  replace H := Option.bind_eq_some_iff.mp H
  obtain ⟨⟨t130, t131, t132⟩, A40, H⟩ := H
  replace H : ((spec_l1Next.f t123 t131 t132 12).bind fun bt133 => (if bt133.1 = 0 then ((spec_l1Next.f t123 bt133.2.1 bt133.2.2 2).bind fun bt136 => (spec_DrawSpans.j0 k (wrap64 ((wrap64 (2560 - t130)) + bt136.1)) t130 bt133.1 t123 bt136.2.1 bt136.2.2)) else (spec_DrawSpans.j0 k t127 t130 bt133.1 t123 bt133.2.1 bt133.2.2))) = some (r1, r2) := H
  have A4 := Aside0.mk A40
  clear A40
  replace H := Option.bind_eq_some_iff.mp H
  obtain ⟨⟨t133, t134, t135⟩, A50, H⟩ := H
  replace H : (if t133 = 0 then ((spec_l1Next.f t123 t134 t135 2).bind fun bt136 => (spec_DrawSpans.j0 k (wrap64 ((wrap64 (2560 - t130)) + bt136.1)) t130 t133 t123 bt136.2.1 bt136.2.2)) else (spec_DrawSpans.j0 k t127 t130 t133 t123 t134 t135)) = some (r1, r2) := H
  have A5 := Aside0.mk A50
  clear A50
  have HC6 := Aside0.mk H
  clear H
  go_enter Try.func47, Try.ntmps47
  go_upto_if 17 with (first | ((with_reducible refine gate_callee (f := 67) rfl ?_); refine goesL_ (some 9) rfl rfl Try.func67 (by kernel_rfl) rfl #[.slice A0 l0.length c0] rfl (by (try simp only [List.map_toArray, List.map_cons, List.map_nil]); first | done | rfl | (simp only [List.length_drop, List.length_take]; rfl)) ?_; (with_reducible refine (spec_l1Source.calls _ _ l0 t123 t124 t125 w _ ?side1 ?side2 ?side3 A2.out).mono ?_); (case side1 => repeat (first | (with_reducible first | exact HB.out | apply below_alloc | apply pw_below_drewN | apply below_drew1) | exact HB.out)); (case side2 => exact HR0.out); (case side3 => exact HC0.out); rintro e w7 ⟨g126, rfl, hi, hb, hb2⟩; refine ⟨_, rfl, ?_⟩; have n0_ := Aside0.mk (hb); have n1_ := Aside0.mk (hi); clear HB; have HB := n0_; have HI126 := n1_; clear n0_ n1_; (try clear hb); (try clear hb2); (try clear hk); (try clear hi)) | ((with_reducible refine gate_callee (f := 76) rfl ?_); refine goesL_ (some 11) rfl rfl Try.func76 (by kernel_rfl) rfl #[.pointer (some ⟨g126, 0, none⟩), .int .i64 400] rfl (by (try simp only [List.map_toArray, List.map_cons, List.map_nil]); first | done | rfl | (simp only [List.length_drop, List.length_take]; rfl)) ?_; (with_reducible refine (spec_l1Next.calls g126 t123 t124 t125 400 t127 t128 t129 w _ ?side1 ?side2 A3.out).mono ?_); (case side1 => repeat (first | (with_reducible first | exact HI126.out | apply IsS107.alloc | apply IsS107.drewN | apply IsS107.drew | apply IsS107.set_1 | apply IsS107.set_2) | exact HI126.out)); (case side2 => repeat (first | (with_reducible first | exact HB.out | apply below_alloc | apply pw_below_drewN | apply below_drew1 | refine below_set ?_ (IsS107.ge HI126.out)) | exact HB.out)); rintro e w8 ⟨rfl, hi, hb, hk⟩; refine ⟨_, rfl, ?_⟩; have n0_ := Aside0.mk (hb); have n1_ := Aside0.mk (hi); clear HB; clear HI126; have HB := n0_; have HI126 := n1_; clear n0_ n1_; (try clear hb); (try clear hb2); (try clear hk); (try clear hi)) | ((with_reducible refine gate_callee (f := 76) rfl ?_); refine goesL_ (some 13) rfl rfl Try.func76 (by kernel_rfl) rfl #[.pointer (some ⟨g126, 0, none⟩), .int .i64 300] rfl (by (try simp only [List.map_toArray, List.map_cons, List.map_nil]); first | done | rfl | (simp only [List.length_drop, List.length_take]; rfl)) ?_; (with_reducible refine (spec_l1Next.calls g126 t123 t128 t129 300 t130 t131 t132 w _ ?side1 ?side2 A4.out).mono ?_); (case side1 => repeat (first | (with_reducible first | exact HI126.out | apply IsS107.alloc | apply IsS107.drewN | apply IsS107.drew | apply IsS107.set_1 | apply IsS107.set_2) | exact HI126.out)); (case side2 => repeat (first | (with_reducible first | exact HB.out | apply below_alloc | apply pw_below_drewN | apply below_drew1 | refine below_set ?_ (IsS107.ge HI126.out)) | exact HB.out)); rintro e w9 ⟨rfl, hi, hb, hk⟩; refine ⟨_, rfl, ?_⟩; have n0_ := Aside0.mk (hb); have n1_ := Aside0.mk (hi); clear HB; clear HI126; have HB := n0_; have HI126 := n1_; clear n0_ n1_; (try clear hb); (try clear hb2); (try clear hk); (try clear hi)) | ((with_reducible refine gate_callee (f := 76) rfl ?_); refine goesL_ (some 15) rfl rfl Try.func76 (by kernel_rfl) rfl #[.pointer (some ⟨g126, 0, none⟩), .int .i64 12] rfl (by (try simp only [List.map_toArray, List.map_cons, List.map_nil]); first | done | rfl | (simp only [List.length_drop, List.length_take]; rfl)) ?_; (with_reducible refine (spec_l1Next.calls g126 t123 t131 t132 12 t133 t134 t135 w _ ?side1 ?side2 A5.out).mono ?_); (case side1 => repeat (first | (with_reducible first | exact HI126.out | apply IsS107.alloc | apply IsS107.drewN | apply IsS107.drew | apply IsS107.set_1 | apply IsS107.set_2) | exact HI126.out)); (case side2 => repeat (first | (with_reducible first | exact HB.out | apply below_alloc | apply pw_below_drewN | apply below_drew1 | refine below_set ?_ (IsS107.ge HI126.out)) | exact HB.out)); rintro e w10 ⟨rfl, hi, hb, hk⟩; refine ⟨_, rfl, ?_⟩; have n0_ := Aside0.mk (hb); have n1_ := Aside0.mk (hi); clear HB; clear HI126; have HB := n0_; have HI126 := n1_; clear n0_ n1_; (try clear hb); (try clear hb2); (try clear hk); (try clear hi)))
  (try simp only [Act.put, List.setIfInBounds_toArray, List.set_cons_zero, List.set_cons_succ])
  go_cut [5] (fun v5 wc => ∃ (kq : Nat) (x5_5 : Int) (x127001_5 : Int) (x127002_5 : Int), v5 = .int .i64 x5_5 ∧ Aside0 (spec_DrawSpans.j0 kq x5_5 t130 t133 t123 x127001_5 x127002_5 = some (r1, r2)) ∧ Aside0 (kq ≤ k) ∧ Aside0 (IsS107 w wc g126 t123 x127001_5 x127002_5) ∧ Aside0 (Below w.heap.size w wc))
  case first =>
    have H := HC6.out
    clear HC6
    by_cases c11 : t133 = 0
    · rw [if_pos c11] at H
      have c11b0 : (t133 == 0) = true := beq_iff_eq.mpr c11
      have c11b1 : (t133 != 0) = false := bne_eq_false_iff_eq.mpr c11
      clear c11
      (first | rw [c11b0] | (simp only [i64_w, i32_w]; rw [c11b0]) | skip)
      replace H := Option.bind_eq_some_iff.mp H
      obtain ⟨⟨t136, t137, t138⟩, A120, H⟩ := H
      replace H : (spec_DrawSpans.j0 k (wrap64 ((wrap64 (2560 - t130)) + t136)) t130 t133 t123 t137 t138) = some (r1, r2) := H
      have A12 := Aside0.mk A120
      clear A120
      have H' := Aside0.mk H
      clear H
      go_wp2_with (first | ((with_reducible refine gate_callee (f := 76) rfl ?_); refine goesL_ (some 21) rfl rfl Try.func76 (by kernel_rfl) rfl #[.pointer (some ⟨g126, 0, none⟩), .int .i64 2] rfl (by (try simp only [List.map_toArray, List.map_cons, List.map_nil]); first | done | rfl | (simp only [List.length_drop, List.length_take]; rfl)) ?_; (with_reducible refine (spec_l1Next.calls g126 t123 t134 t135 2 t136 t137 t138 w _ ?side1 ?side2 A12.out).mono ?_); (case side1 => repeat (first | (with_reducible first | exact HI126.out | apply IsS107.alloc | apply IsS107.drewN | apply IsS107.drew | apply IsS107.set_1 | apply IsS107.set_2) | exact HI126.out)); (case side2 => repeat (first | (with_reducible first | exact HB.out | apply below_alloc | apply pw_below_drewN | apply below_drew1 | refine below_set ?_ (IsS107.ge HI126.out)) | exact HB.out)); rintro e w13 ⟨rfl, hi, hb, hk⟩; refine ⟨_, rfl, ?_⟩; have n0_ := Aside0.mk (hb); have n1_ := Aside0.mk (hi); clear HB; clear HI126; have HB := n0_; have HI126 := n1_; clear n0_ n1_; (try clear hb); (try clear hb2); (try clear hk); (try clear hi)))
      go_meet
      case rel => exact ⟨_, (wrap64 ((wrap64 (2560 - t130)) + t136)), (t137), (t138), (by first | rfl | (simp; done) | (simp [*]; done)), H', ⟨by first | omega | exact Nat.le_refl _⟩, ⟨by repeat (first | (with_reducible first | exact HI126.out | apply IsS107.alloc | apply IsS107.drewN | apply IsS107.drew | apply IsS107.set_1 | apply IsS107.set_2) | exact HI126.out)⟩, ⟨by repeat (first | (with_reducible first | exact HB.out | apply below_alloc | apply pw_below_drewN | apply below_drew1 | refine below_set ?_ (IsS107.ge HI126.out)) | exact HB.out)⟩⟩
    · rw [if_neg c11] at H
      have c11b0 : (t133 == 0) = false := beq_eq_false_iff_ne.mpr c11
      have c11b1 : (t133 != 0) = true := bne_iff_ne.mpr c11
      (first | rw [c11b0] | (simp only [i64_w, i32_w]; rw [c11b0]) | skip)
      have H' := Aside0.mk H
      clear H
      go_wp2
      go_meet
      case rel => exact ⟨_, (t127), (t134), (t135), (by first | rfl | (simp; done) | (simp [*]; done)), H', ⟨by first | omega | exact Nat.le_refl _⟩, ⟨by repeat (first | (with_reducible first | exact HI126.out | apply IsS107.alloc | apply IsS107.drewN | apply IsS107.drew | apply IsS107.set_1 | apply IsS107.set_2) | exact HI126.out)⟩, ⟨by repeat (first | (with_reducible first | exact HB.out | apply below_alloc | apply pw_below_drewN | apply below_drew1 | refine below_set ?_ (IsS107.ge HI126.out)) | exact HB.out)⟩⟩
  case rest =>
    clear HC6
    try clear c1
    try clear p2
    try clear c4
    try clear c6
    try clear p6
    try clear c7
    try clear c11
    try clear c11b0
    try clear c11b1
    obtain ⟨kq, x5_5, x127001_5, x127002_5, rfl, HA, HJ5, HI126, HB⟩ := hcut
    cases kq with
    | zero => exact absurd HA.out (by simp [spec_DrawSpans.j0])
    | succ kj5 =>
      have H := HA.out
      clear HA
      simp only [spec_DrawSpans.j0] at H
      have HC14 := Aside0.mk H
      clear H
      go_upto_if 24 with (fail)
      go_cut [5] (fun v5 wc => ∃ (kq : Nat) (x5_13 : Int), v5 = .int .i64 x5_13 ∧ Aside0 (spec_DrawSpans.j1 kq x5_13 t130 t133 t123 x127001_5 x127002_5 = some (r1, r2)) ∧ Aside0 (kq ≤ kj5) ∧ Aside0 (IsS107 w wc g126 t123 x127001_5 x127002_5) ∧ Aside0 (Below w.heap.size w wc))
      case first =>
        have H := HC14.out
        clear HC14
        by_cases c15 : t133 = 1
        · rw [if_pos c15] at H
          have c15b0 : (t133 == 1) = true := beq_iff_eq.mpr c15
          have c15b1 : (t133 != 1) = false := bne_eq_false_iff_eq.mpr c15
          clear c15
          (first | rw [c15b0] | (simp only [i64_w, i32_w]; rw [c15b0]) | skip)
          have H' := Aside0.mk H
          clear H
          go_wp2
          go_meet
          case rel => exact ⟨_, ((-1)), (by first | rfl | (simp; done) | (simp [*]; done)), H', ⟨by have := HJ5.out; first | omega | exact Nat.le_refl _⟩, ⟨by repeat (first | (with_reducible first | exact HI126.out | apply IsS107.alloc | apply IsS107.drewN | apply IsS107.drew | apply IsS107.set_1 | apply IsS107.set_2) | exact HI126.out)⟩, ⟨by repeat (first | (with_reducible first | exact HB.out | apply below_alloc | apply pw_below_drewN | apply below_drew1 | refine below_set ?_ (IsS107.ge HI126.out)) | exact HB.out)⟩⟩
        · rw [if_neg c15] at H
          have c15b0 : (t133 == 1) = false := beq_eq_false_iff_ne.mpr c15
          have c15b1 : (t133 != 1) = true := bne_iff_ne.mpr c15
          (first | rw [c15b0] | (simp only [i64_w, i32_w]; rw [c15b0]) | skip)
          have H' := Aside0.mk H
          clear H
          go_wp2
          go_meet
          case rel => exact ⟨_, (x5_5), (by first | rfl | (simp; done) | (simp [*]; done)), H', ⟨by have := HJ5.out; first | omega | exact Nat.le_refl _⟩, ⟨by repeat (first | (with_reducible first | exact HI126.out | apply IsS107.alloc | apply IsS107.drewN | apply IsS107.drew | apply IsS107.set_1 | apply IsS107.set_2) | exact HI126.out)⟩, ⟨by repeat (first | (with_reducible first | exact HB.out | apply below_alloc | apply pw_below_drewN | apply below_drew1 | refine below_set ?_ (IsS107.ge HI126.out)) | exact HB.out)⟩⟩
      case rest =>
        clear HC14
        try clear c1
        try clear p2
        try clear c4
        try clear c6
        try clear p6
        try clear c7
        try clear c11
        try clear c11b0
        try clear c11b1
        try clear c15
        try clear c15b0
        try clear c15b1
        try clear p2
        try clear p6
        obtain ⟨kq, x5_13, rfl, HA, HJ13, HI126, HB⟩ := hcut
        cases kq with
        | zero => exact absurd HA.out (by simp [spec_DrawSpans.j1])
        | succ kj13 =>
          have H := HA.out
          clear HA
          simp only [spec_DrawSpans.j1] at H
          by_cases c16 : t133 = 2
          · rw [if_pos c16] at H
            have c16b0 : (t133 == 2) = true := beq_iff_eq.mpr c16
            have c16b1 : (t133 != 2) = false := bne_eq_false_iff_eq.mpr c16
            clear c16
            replace H := Option.bind_eq_some_iff.mp H
            obtain ⟨⟨t139, t140, t141⟩, A170, H⟩ := H
            replace H : (if t139 = true then (if t133 = 3 then ((spec_l1Next.f t123 t140 t141 2).bind fun bt142 => (some (wrap64 (2560 + bt142.1), 0))) else (some (x5_13, (-1)))) else (if t133 = 3 then ((spec_l1Next.f t123 t140 t141 2).bind fun bt145 => (some (wrap64 (2560 + bt145.1), 0))) else (some (x5_13, 9223372036854775807)))) = some (r1, r2) := H
            have A17 := Aside0.mk A170
            clear A170
            by_cases c18 : t139 = true
            · subst c18
              have H1 : (if t133 = 3 then ((spec_l1Next.f t123 t140 t141 2).bind fun bt142 => (some (wrap64 (2560 + bt142.1), 0))) else (some (x5_13, (-1)))) = some (r1, r2) := by rw [if_pos rfl] at H; exact H
              clear H
              have H := H1
              clear H1
              by_cases c19 : t133 = 3
              · rw [if_pos c19] at H
                have c19b0 : (t133 == 3) = true := beq_iff_eq.mpr c19
                have c19b1 : (t133 != 3) = false := bne_eq_false_iff_eq.mpr c19
                clear c19
                replace H := Option.bind_eq_some_iff.mp H
                obtain ⟨⟨t142, t143, t144⟩, A200, H⟩ := H
                replace H : (some (wrap64 (2560 + t142), 0)) = some (r1, r2) := H
                have A20 := Aside0.mk A200
                clear A200
                simp only [Option.some.injEq, Prod.mk.injEq] at H
                obtain ⟨rfl, rfl⟩ := H
                go_wp2_with (first | ((with_reducible refine gate_callee (f := 69) rfl ?_); refine goesL_ (some 28) rfl rfl Try.func69 (by kernel_rfl) rfl #[.pointer (some ⟨g126, 0, none⟩), .int .i64 2] rfl (by (try simp only [List.map_toArray, List.map_cons, List.map_nil]); first | done | rfl | (simp only [List.length_drop, List.length_take]; rfl)) ?_; (with_reducible refine (spec_l1Chance.calls g126 t123 x127001_5 x127002_5 2 true t140 t141 w _ ?side1 ?side2 A17.out).mono ?_); (case side1 => repeat (first | (with_reducible first | exact HI126.out | apply IsS107.alloc | apply IsS107.drewN | apply IsS107.drew | apply IsS107.set_1 | apply IsS107.set_2) | exact HI126.out)); (case side2 => repeat (first | (with_reducible first | exact HB.out | apply below_alloc | apply pw_below_drewN | apply below_drew1 | refine below_set ?_ (IsS107.ge HI126.out)) | exact HB.out)); rintro e w21 ⟨rfl, hi, hb, hk⟩; refine ⟨_, rfl, ?_⟩; have n0_ := Aside0.mk (hb); have n1_ := Aside0.mk (hi); clear HB; clear HI126; have HB := n0_; have HI126 := n1_; clear n0_ n1_; (try clear hb); (try clear hb2); (try clear hk); (try clear hi)) | ((with_reducible refine gate_callee (f := 76) rfl ?_); refine goesL_ (some 32) rfl rfl Try.func76 (by kernel_rfl) rfl #[.pointer (some ⟨g126, 0, none⟩), .int .i64 2] rfl (by (try simp only [List.map_toArray, List.map_cons, List.map_nil]); first | done | rfl | (simp only [List.length_drop, List.length_take]; rfl)) ?_; (with_reducible refine (spec_l1Next.calls g126 t123 t140 t141 2 t142 t143 t144 w _ ?side1 ?side2 A20.out).mono ?_); (case side1 => repeat (first | (with_reducible first | exact HI126.out | apply IsS107.alloc | apply IsS107.drewN | apply IsS107.drew | apply IsS107.set_1 | apply IsS107.set_2) | exact HI126.out)); (case side2 => repeat (first | (with_reducible first | exact HB.out | apply below_alloc | apply pw_below_drewN | apply below_drew1 | refine below_set ?_ (IsS107.ge HI126.out)) | exact HB.out)); rintro e w22 ⟨rfl, hi, hb, hk⟩; refine ⟨_, rfl, ?_⟩; have n0_ := Aside0.mk (hb); have n1_ := Aside0.mk (hi); clear HB; clear HI126; have HB := n0_; have HI126 := n1_; clear n0_ n1_; (try clear hb); (try clear hb2); (try clear hk); (try clear hi)))
                go_ret2
                exact ⟨by first | rfl | (simp [errW_none, errW_some] <;> rfl) | (simp [*, errW_none, errW_some] <;> rfl), by repeat (first | (with_reducible first | exact HB.out | apply below_alloc | apply pw_below_drewN | apply below_drew1 | refine below_set ?_ (IsS107.ge HI126.out)) | exact HB.out)⟩
              · rw [if_neg c19] at H
                have c19b0 : (t133 == 3) = false := beq_eq_false_iff_ne.mpr c19
                have c19b1 : (t133 != 3) = true := bne_iff_ne.mpr c19
                simp only [Option.some.injEq, Prod.mk.injEq] at H
                obtain ⟨rfl, rfl⟩ := H
                go_wp2_with (first | ((with_reducible refine gate_callee (f := 69) rfl ?_); refine goesL_ (some 28) rfl rfl Try.func69 (by kernel_rfl) rfl #[.pointer (some ⟨g126, 0, none⟩), .int .i64 2] rfl (by (try simp only [List.map_toArray, List.map_cons, List.map_nil]); first | done | rfl | (simp only [List.length_drop, List.length_take]; rfl)) ?_; (with_reducible refine (spec_l1Chance.calls g126 t123 x127001_5 x127002_5 2 true t140 t141 w _ ?side1 ?side2 A17.out).mono ?_); (case side1 => repeat (first | (with_reducible first | exact HI126.out | apply IsS107.alloc | apply IsS107.drewN | apply IsS107.drew | apply IsS107.set_1 | apply IsS107.set_2) | exact HI126.out)); (case side2 => repeat (first | (with_reducible first | exact HB.out | apply below_alloc | apply pw_below_drewN | apply below_drew1 | refine below_set ?_ (IsS107.ge HI126.out)) | exact HB.out)); rintro e w23 ⟨rfl, hi, hb, hk⟩; refine ⟨_, rfl, ?_⟩; have n0_ := Aside0.mk (hb); have n1_ := Aside0.mk (hi); clear HB; clear HI126; have HB := n0_; have HI126 := n1_; clear n0_ n1_; (try clear hb); (try clear hb2); (try clear hk); (try clear hi)))
                go_ret2
                exact ⟨by first | rfl | (simp [errW_none, errW_some] <;> rfl) | (simp [*, errW_none, errW_some] <;> rfl), by repeat (first | (with_reducible first | exact HB.out | apply below_alloc | apply pw_below_drewN | apply below_drew1 | refine below_set ?_ (IsS107.ge HI126.out)) | exact HB.out)⟩
            · replace c18 := Bool.eq_false_iff.mpr c18
              subst c18
              have H1 : (if t133 = 3 then ((spec_l1Next.f t123 t140 t141 2).bind fun bt145 => (some (wrap64 (2560 + bt145.1), 0))) else (some (x5_13, 9223372036854775807))) = some (r1, r2) := by rw [if_neg (show ¬ (false = true) by decide)] at H; exact H
              clear H
              have H := H1
              clear H1
              by_cases c24 : t133 = 3
              · rw [if_pos c24] at H
                have c24b0 : (t133 == 3) = true := beq_iff_eq.mpr c24
                have c24b1 : (t133 != 3) = false := bne_eq_false_iff_eq.mpr c24
                clear c24
                replace H := Option.bind_eq_some_iff.mp H
                obtain ⟨⟨t145, t146, t147⟩, A250, H⟩ := H
                replace H : (some (wrap64 (2560 + t145), 0)) = some (r1, r2) := H
                have A25 := Aside0.mk A250
                clear A250
                simp only [Option.some.injEq, Prod.mk.injEq] at H
                obtain ⟨rfl, rfl⟩ := H
                go_wp2_with (first | ((with_reducible refine gate_callee (f := 69) rfl ?_); refine goesL_ (some 28) rfl rfl Try.func69 (by kernel_rfl) rfl #[.pointer (some ⟨g126, 0, none⟩), .int .i64 2] rfl (by (try simp only [List.map_toArray, List.map_cons, List.map_nil]); first | done | rfl | (simp only [List.length_drop, List.length_take]; rfl)) ?_; (with_reducible refine (spec_l1Chance.calls g126 t123 x127001_5 x127002_5 2 false t140 t141 w _ ?side1 ?side2 A17.out).mono ?_); (case side1 => repeat (first | (with_reducible first | exact HI126.out | apply IsS107.alloc | apply IsS107.drewN | apply IsS107.drew | apply IsS107.set_1 | apply IsS107.set_2) | exact HI126.out)); (case side2 => repeat (first | (with_reducible first | exact HB.out | apply below_alloc | apply pw_below_drewN | apply below_drew1 | refine below_set ?_ (IsS107.ge HI126.out)) | exact HB.out)); rintro e w26 ⟨rfl, hi, hb, hk⟩; refine ⟨_, rfl, ?_⟩; have n0_ := Aside0.mk (hb); have n1_ := Aside0.mk (hi); clear HB; clear HI126; have HB := n0_; have HI126 := n1_; clear n0_ n1_; (try clear hb); (try clear hb2); (try clear hk); (try clear hi)) | ((with_reducible refine gate_callee (f := 76) rfl ?_); refine goesL_ (some 32) rfl rfl Try.func76 (by kernel_rfl) rfl #[.pointer (some ⟨g126, 0, none⟩), .int .i64 2] rfl (by (try simp only [List.map_toArray, List.map_cons, List.map_nil]); first | done | rfl | (simp only [List.length_drop, List.length_take]; rfl)) ?_; (with_reducible refine (spec_l1Next.calls g126 t123 t140 t141 2 t145 t146 t147 w _ ?side1 ?side2 A25.out).mono ?_); (case side1 => repeat (first | (with_reducible first | exact HI126.out | apply IsS107.alloc | apply IsS107.drewN | apply IsS107.drew | apply IsS107.set_1 | apply IsS107.set_2) | exact HI126.out)); (case side2 => repeat (first | (with_reducible first | exact HB.out | apply below_alloc | apply pw_below_drewN | apply below_drew1 | refine below_set ?_ (IsS107.ge HI126.out)) | exact HB.out)); rintro e w27 ⟨rfl, hi, hb, hk⟩; refine ⟨_, rfl, ?_⟩; have n0_ := Aside0.mk (hb); have n1_ := Aside0.mk (hi); clear HB; clear HI126; have HB := n0_; have HI126 := n1_; clear n0_ n1_; (try clear hb); (try clear hb2); (try clear hk); (try clear hi)))
                go_ret2
                exact ⟨by first | rfl | (simp [errW_none, errW_some] <;> rfl) | (simp [*, errW_none, errW_some] <;> rfl), by repeat (first | (with_reducible first | exact HB.out | apply below_alloc | apply pw_below_drewN | apply below_drew1 | refine below_set ?_ (IsS107.ge HI126.out)) | exact HB.out)⟩
              · rw [if_neg c24] at H
                have c24b0 : (t133 == 3) = false := beq_eq_false_iff_ne.mpr c24
                have c24b1 : (t133 != 3) = true := bne_iff_ne.mpr c24
                simp only [Option.some.injEq, Prod.mk.injEq] at H
                obtain ⟨rfl, rfl⟩ := H
                go_wp2_with (first | ((with_reducible refine gate_callee (f := 69) rfl ?_); refine goesL_ (some 28) rfl rfl Try.func69 (by kernel_rfl) rfl #[.pointer (some ⟨g126, 0, none⟩), .int .i64 2] rfl (by (try simp only [List.map_toArray, List.map_cons, List.map_nil]); first | done | rfl | (simp only [List.length_drop, List.length_take]; rfl)) ?_; (with_reducible refine (spec_l1Chance.calls g126 t123 x127001_5 x127002_5 2 false t140 t141 w _ ?side1 ?side2 A17.out).mono ?_); (case side1 => repeat (first | (with_reducible first | exact HI126.out | apply IsS107.alloc | apply IsS107.drewN | apply IsS107.drew | apply IsS107.set_1 | apply IsS107.set_2) | exact HI126.out)); (case side2 => repeat (first | (with_reducible first | exact HB.out | apply below_alloc | apply pw_below_drewN | apply below_drew1 | refine below_set ?_ (IsS107.ge HI126.out)) | exact HB.out)); rintro e w28 ⟨rfl, hi, hb, hk⟩; refine ⟨_, rfl, ?_⟩; have n0_ := Aside0.mk (hb); have n1_ := Aside0.mk (hi); clear HB; clear HI126; have HB := n0_; have HI126 := n1_; clear n0_ n1_; (try clear hb); (try clear hb2); (try clear hk); (try clear hi)))
                go_ret2
                exact ⟨by first | rfl | (simp [errW_none, errW_some] <;> rfl) | (simp [*, errW_none, errW_some] <;> rfl), by repeat (first | (with_reducible first | exact HB.out | apply below_alloc | apply pw_below_drewN | apply below_drew1 | refine below_set ?_ (IsS107.ge HI126.out)) | exact HB.out)⟩
          · rw [if_neg c16] at H
            have c16b0 : (t133 == 2) = false := beq_eq_false_iff_ne.mpr c16
            have c16b1 : (t133 != 2) = true := bne_iff_ne.mpr c16
            by_cases c29 : t133 = 3
            · rw [if_pos c29] at H
              have c29b0 : (t133 == 3) = true := beq_iff_eq.mpr c29
              have c29b1 : (t133 != 3) = false := bne_eq_false_iff_eq.mpr c29
              clear c29
              replace H := Option.bind_eq_some_iff.mp H
              obtain ⟨⟨t148, t149, t150⟩, A300, H⟩ := H
              replace H : (some (wrap64 (2560 + t148), 0)) = some (r1, r2) := H
              have A30 := Aside0.mk A300
              clear A300
              simp only [Option.some.injEq, Prod.mk.injEq] at H
              obtain ⟨rfl, rfl⟩ := H
              go_wp2_with (first | ((with_reducible refine gate_callee (f := 76) rfl ?_); refine goesL_ (some 32) rfl rfl Try.func76 (by kernel_rfl) rfl #[.pointer (some ⟨g126, 0, none⟩), .int .i64 2] rfl (by (try simp only [List.map_toArray, List.map_cons, List.map_nil]); first | done | rfl | (simp only [List.length_drop, List.length_take]; rfl)) ?_; (with_reducible refine (spec_l1Next.calls g126 t123 x127001_5 x127002_5 2 t148 t149 t150 w _ ?side1 ?side2 A30.out).mono ?_); (case side1 => repeat (first | (with_reducible first | exact HI126.out | apply IsS107.alloc | apply IsS107.drewN | apply IsS107.drew | apply IsS107.set_1 | apply IsS107.set_2) | exact HI126.out)); (case side2 => repeat (first | (with_reducible first | exact HB.out | apply below_alloc | apply pw_below_drewN | apply below_drew1 | refine below_set ?_ (IsS107.ge HI126.out)) | exact HB.out)); rintro e w31 ⟨rfl, hi, hb, hk⟩; refine ⟨_, rfl, ?_⟩; have n0_ := Aside0.mk (hb); have n1_ := Aside0.mk (hi); clear HB; clear HI126; have HB := n0_; have HI126 := n1_; clear n0_ n1_; (try clear hb); (try clear hb2); (try clear hk); (try clear hi)))
              go_ret2
              exact ⟨by first | rfl | (simp [errW_none, errW_some] <;> rfl) | (simp [*, errW_none, errW_some] <;> rfl), by repeat (first | (with_reducible first | exact HB.out | apply below_alloc | apply pw_below_drewN | apply below_drew1 | refine below_set ?_ (IsS107.ge HI126.out)) | exact HB.out)⟩
            · rw [if_neg c29] at H
              have c29b0 : (t133 == 3) = false := beq_eq_false_iff_ne.mpr c29
              have c29b1 : (t133 != 3) = true := bne_iff_ne.mpr c29
              simp only [Option.some.injEq, Prod.mk.injEq] at H
              obtain ⟨rfl, rfl⟩ := H
              go_wp2
              go_ret2
              exact ⟨by first | rfl | (simp [errW_none, errW_some] <;> rfl) | (simp [*, errW_none, errW_some] <;> rfl), by repeat (first | (with_reducible first | exact HB.out | apply below_alloc | apply pw_below_drewN | apply below_drew1 | refine below_set ?_ (IsS107.ge HI126.out)) | exact HB.out)⟩

/-! ### impl_in: function 77 -/
def impl_in.f (a0 : Int) (a1 : Int) (a2 : Int) : Option (Bool) := if a0 ≥ a1 then (some (decide (a0 ≤ a2))) else (some false)
set_option maxHeartbeats 8000000 in
set_option maxRecDepth 100000 in
theorem impl_in.calls (a0 : Int) (a1 : Int) (a2 : Int) (r : Bool) (w : World) (h : impl_in.f a0 a1 a2 = some r) :
    Calls Try.prog 77 #[.int .i64 a0, .int .i64 a1, .int .i64 a2] w fun e w' => e = .returned (.bool r) ∧ Drawn0 w w' := by
  have H : (if a0 ≥ a1 then (some (decide (a0 ≤ a2))) else (some false)) = some r := h
  clear h
  by_cases c4 : a0 ≥ a1
  · rw [if_pos c4] at H
    have c4b0 : decide (a1 ≤ a0) = true := decide_eq_true c4
    clear c4
    obtain rfl := Option.some.inj H
    go_enter Try.func77, Try.ntmps77
    go_wp2
    go_ret
    exact ⟨by first | rfl | (simp; done) | (simp [*]; done), by repeat (first | exact Drawn0.refl _ | apply Drawn0.step)⟩
  · rw [if_neg c4] at H
    have c4b0 : decide (a1 ≤ a0) = false := decide_eq_false c4
    clear c4
    obtain rfl := Option.some.inj H
    go_enter Try.func77, Try.ntmps77
    go_wp2
    go_ret
    exact ⟨by first | rfl | (simp; done) | (simp [*]; done), by repeat (first | exact Drawn0.refl _ | apply Drawn0.step)⟩

/-! ### impl_FileNeed: function 48 -/
mutual
def spec_FileNeed.l0 : Nat → List Int → List Bool → Int → Option (Int)
  | 0, _, _, _ => none
  | k + 1, x0, x3, x4 => if x4 < (x0.length : Int) then (if 0 ≤ x4 then (if (rd x0 x4) < 0 then (some (-1)) else (if (rd x0 x4) ≥ 40 then (some (-1)) else (if 0 ≤ (rd x0 x4) then (if (rd x0 x4) < (x3.length : Int) then (spec_FileNeed.l0 k x0 (x3.set ((rd x0 x4) : Int).toNat true) (wrap64 (x4 + 1))) else (none)) else (none)))) else (none)) else (spec_FileNeed.l1 k x3 0 0 0)
def spec_FileNeed.l1 : Nat → List Bool → Int → Int → Int → Option (Int)
  | 0, _, _, _, _ => none
  | k + 1, x3, x5, x6, x7 => if x7 < (x3.length : Int) then (if 0 ≤ x7 then (if rdOf false x3 x7 = true then (if x7 ≥ 8 then (spec_FileNeed.l1 k x3 (wrap64 (x5 + 1)) 1 (wrap64 (x7 + 1))) else (spec_FileNeed.l1 k x3 (wrap64 (x5 + 1)) x6 (wrap64 (x7 + 1)))) else (spec_FileNeed.l1 k x3 x5 x6 (wrap64 (x7 + 1)))) else (none)) else (some (wrap64 (x5 + x6)))
end
def spec_FileNeed.f (k : Nat) (l0 : List Int) : Option (Int) := if (l0.length : Int) > 100000 then (some (-1)) else (if 40 ≤ 281474976710656 then (spec_FileNeed.l0 k l0 (List.replicate 40 false) 0) else (none))
theorem spec_FileNeed.mono_l : ∀ k, (∀ y0 y1 y2, LeO (spec_FileNeed.l0 k y0 y1 y2) (spec_FileNeed.l0 (k + 1) y0 y1 y2)) ∧ (∀ y0 y1 y2 y3, LeO (spec_FileNeed.l1 k y0 y1 y2 y3) (spec_FileNeed.l1 (k + 1) y0 y1 y2 y3))
  | 0 => ⟨fun _ _ _ r h => by simp [spec_FileNeed.l0] at h, fun _ _ _ _ r h => by simp [spec_FileNeed.l1] at h⟩
  | k + 1 => by
    obtain ⟨ih0, ih1⟩ := spec_FileNeed.mono_l k
    refine ⟨?_, ?_⟩
    · intro y0 y1 y2
      unfold spec_FileNeed.l0
      repeat' first
      | (with_reducible exact ih0 _ _ _)
      | (with_reducible exact ih1 _ _ _ _)
      | (with_reducible exact LeO.refl _)
      | (with_reducible exact LeO.none _)
      | (with_reducible refine LeO.ite ?_ ?_)
      | (with_reducible refine LeO.bind ?_ (fun _ => ?_))
      | exact ih0 _ _ _
      | exact ih1 _ _ _ _
      | exact LeO.none _
      | refine LeO.ite ?_ ?_
      | refine LeO.bind ?_ (fun _ => ?_)
    · intro y0 y1 y2 y3
      unfold spec_FileNeed.l1
      repeat' first
      | (with_reducible exact ih0 _ _ _)
      | (with_reducible exact ih1 _ _ _ _)
      | (with_reducible exact LeO.refl _)
      | (with_reducible exact LeO.none _)
      | (with_reducible refine LeO.ite ?_ ?_)
      | (with_reducible refine LeO.bind ?_ (fun _ => ?_))
      | exact ih0 _ _ _
      | exact ih1 _ _ _ _
      | exact LeO.none _
      | refine LeO.ite ?_ ?_
      | refine LeO.bind ?_ (fun _ => ?_)
theorem spec_FileNeed.mono : ∀ a0 k, LeO (spec_FileNeed.f k a0) (spec_FileNeed.f (k + 1) a0) := by
  intro a0 k
  obtain ⟨ih0, ih1⟩ := spec_FileNeed.mono_l k
  unfold spec_FileNeed.f
  repeat' first
      | (with_reducible exact ih0 _ _ _)
      | (with_reducible exact ih1 _ _ _ _)
      | (with_reducible exact LeO.refl _)
      | (with_reducible exact LeO.none _)
      | (with_reducible refine LeO.ite ?_ ?_)
      | (with_reducible refine LeO.bind ?_ (fun _ => ?_))
      | exact ih0 _ _ _
      | exact ih1 _ _ _ _
      | exact LeO.none _
      | refine LeO.ite ?_ ?_
      | refine LeO.bind ?_ (fun _ => ?_)
def impl_FileNeed.f (k : Nat) (l0 : List Int) : Option (Int) := spec_FileNeed.f k l0
theorem impl_FileNeed.mono : ∀ a0 k, LeO (impl_FileNeed.f k a0) (impl_FileNeed.f (k + 1) a0) := spec_FileNeed.mono
section
open Go.Maps
/-- The map holds just what the list of bools says; no key twice. -/
def fnAgree (x : List Bool) (D : DataW Nat) : Prop := x.length = 40 ∧ Tidy D ∧ (∀ v : Nat, v < 40 → has D (.int .i64 v) = x.getD v false) ∧ size D = (x.filter id).length
def fnFar (x : List Bool) : Int := if (x.drop 8).any id = true then 1 else 0
theorem fn_count (x : List Bool) : ∀ (v : Nat), v < x.length → ((x.set v true).filter id).length = (x.filter id).length + (if x.getD v false = true then 0 else 1) := by
  induction x with
  | nil => intro v h; simp at h
  | cons b x ih =>
    intro v h
    cases v with
    | zero => cases b <;> simp
    | succ v =>
      have := ih v (by simpa using h)
      have e : (b :: x).getD (v + 1) false = x.getD v false := rfl
      rw [e, List.set_cons_succ, List.filter_cons, List.filter_cons]
      cases b
      · simpa using this
      · simp only [id, if_true, List.length_cons]; omega
theorem fn_far_set (x : List Bool) (v : Nat) (h : v < x.length) : fnFar (x.set v true) = if 8 ≤ v then 1 else fnFar x := by
  unfold fnFar
  by_cases h8 : 8 ≤ v
  · have e : ((x.set v true).drop 8).any id = true := by
      rw [List.any_eq_true]
      exact ⟨true, List.mem_of_getElem? (i := v - 8) (by rw [List.getElem?_drop, show 8 + (v - 8) = v by omega]; simp [h]), rfl⟩
    rw [if_pos h8, if_pos e]
  · have e : (x.set v true).drop 8 = x.drop 8 := by
      apply List.ext_getElem?; intro i
      rw [List.getElem?_drop, List.getElem?_drop, List.getElem?_set_ne (by omega)]
    rw [if_neg h8, e]
theorem fn_step {x : List Bool} {D : DataW Nat} (h : fnAgree x D) (v : Nat) (hv : v < 40) (d : DataW Nat) : fnAgree (x.set v true) (D.put (.int .i64 v) d) := by
  obtain ⟨h1, h2, h3, h4⟩ := h
  have hk : WideAt.IsKeyLit (.int .i64 (v : Int)) := by trivial
  refine ⟨by simpa using h1, h2.put hk d, fun u hu => ?_, ?_⟩
  · by_cases e : u = v
    · subst e; rw [has_put_same h2.isMap hk]; simp [h1, hu]
    · rw [has_put_other (fun h => e (by injection h with _ h; omega)), h3 u hu]
      simp [List.getD_eq_getElem?_getD, List.getElem?_set_ne (fun h => e h.symm)]
  · rw [size_put h2, fn_count x v (by omega), h4, h3 v hv]
    split <;> simp
theorem fn_start : fnAgree (List.replicate 40 false) (.map []) := by
  refine ⟨by simp, tidy_empty, fun v hv => ?_, by simp [size]⟩
  rw [List.getD_eq_getElem?_getD, List.getElem?_replicate, if_pos hv]; rfl
theorem fn_drop (x : List Bool) (i : Nat) (h : i < x.length) : x.drop i = x.getD i false :: x.drop (i + 1) := by
  rw [List.drop_eq_getElem_cons h]; simp [h]
theorem fn_l1 (x : List Bool) (hx : x.length = 40) : ∀ (k i : Nat) (n f r : Int), spec_FileNeed.l1 k x n f (i : Int) = some r → i ≤ 40 → 0 ≤ n → n ≤ i → 0 ≤ f → f ≤ 1 →
    r = n + ((x.drop i).filter id).length + (if (x.drop (max i 8)).any id = true then 1 else f) := by
  intro k
  induction k with
  | zero => intro i n f r h; cases h
  | succ k ih =>
    intro i n f r h hi h0 h1 hf0 hf1
    simp only [spec_FileNeed.l1] at h
    by_cases hl : (i : Int) < (x.length : Int)
    · rw [if_pos hl, if_pos (by omega)] at h
      have hw : wrap64 ((i : Int) + 1) = ((i + 1 : Nat) : Int) := by unfold wrap64; omega
      have hn : wrap64 (n + 1) = n + 1 := by unfold wrap64; omega
      have hrd : rdOf false x (i : Int) = x.getD i false := by unfold rdOf; simp
      rw [hw, hn, hrd] at h
      have hd := fn_drop x i (by omega)
      by_cases hb : x.getD i false = true
      · rw [if_pos hb] at h
        rw [hd, List.filter_cons, hb]
        simp only [id, if_true, List.length_cons]
        by_cases h8 : (i : Int) ≥ 8
        · rw [if_pos h8] at h
          have := ih (i + 1) (n + 1) 1 r h (by omega) (by omega) (by omega) (by omega) (by omega)
          rw [this]
          have e1 : max i 8 = i := by omega
          have e2 : max (i + 1) 8 = i + 1 := by omega
          rw [e1, e2, hd, hb]
          simp only [List.any_cons, id, Bool.true_or, if_true]
          split <;> omega
        · rw [if_neg h8] at h
          have := ih (i + 1) (n + 1) f r h (by omega) (by omega) (by omega) hf0 hf1
          rw [this]
          have e1 : max i 8 = 8 := by omega
          have e2 : max (i + 1) 8 = 8 := by omega
          rw [e1, e2]; omega
      · rw [if_neg hb] at h
        have hb' : x.getD i false = false := by simpa using hb
        have := ih (i + 1) n f r h (by omega) (by omega) (by omega) hf0 hf1
        rw [this, hd, List.filter_cons, hb']
        simp only [id, Bool.false_eq_true, if_false]
        by_cases h8 : (i : Int) ≥ 8
        · have e1 : max i 8 = i := by omega
          have e2 : max (i + 1) 8 = i + 1 := by omega
          rw [e1, e2, hd, hb']
          simp
        · have e1 : max i 8 = 8 := by omega
          have e2 : max (i + 1) 8 = 8 := by omega
          rw [e1, e2]
    · rw [if_neg hl] at h
      obtain rfl := Option.some.inj h
      have e1 : x.drop i = [] := List.drop_eq_nil_of_le (by omega)
      have e2 : x.drop (max i 8) = [] := List.drop_eq_nil_of_le (by omega)
      rw [e1, e2]
      simp
      unfold wrap64; omega
theorem fn_key : Keyed Try.prog 2 := int_keyed Try.underlying2
set_option maxHeartbeats 8000000 in
set_option maxRecDepth 100000 in
set_option maxHeartbeats 8000000 in
set_option maxRecDepth 100000 in
theorem impl_FileNeed.calls (k : Nat) (A0 : Option Addr) (c0 : Nat) (l0 : List Int) (r : Int) (w : World) (hr0 : Kd.C (Kd.int .i64) w A0 l0.length l0) (hc0 : l0.length ≤ c0) (h : impl_FileNeed.f k l0 = some r) :
    Calls Try.prog 48 #[.slice A0 l0.length c0] w fun e w' => e = .returned (.int .i64 r) ∧ Below w.heap.size w w' := by
  have HR0 := Aside0.mk hr0
  have HC0 := Aside0.mk hc0
  have hmm := @run_makeMap Try.prog
  clear hr0 hc0
  have H : (if (l0.length : Int) > 100000 then (some (-1)) else (if 40 ≤ 281474976710656 then (spec_FileNeed.l0 k l0 (List.replicate 40 false) 0) else (none))) = some r := h
  clear h
  by_cases c1 : (l0.length : Int) > 100000
  · rw [if_pos c1] at H
    obtain rfl := Option.some.inj H
    have c1b : decide (100000 < (l0.length : Int)) = true := decide_eq_true c1
    have c1c : decide (100000 < l0.length) = true := decide_eq_true (by omega)
    clear c1 H hmm
    go_enter Try.func48, Try.ntmps48
    go_wp2
    go_ret
    exact ⟨rfl, Below.refl _ _⟩
  rw [if_neg c1, if_pos (by omega)] at H
  have c1b : decide (100000 < (l0.length : Int)) = false := decide_eq_false c1
  have c1c : decide (100000 < l0.length) = false := decide_eq_false (by omega)
  have HL := Aside0.mk (show l0.length ≤ 100000 by omega)
  have H' := Aside0.mk H
  clear H c1
  go_enter Try.func48, Try.ntmps48
  go_wp2
  go_loopg [4, 13] k (fun kq v4 v13 w' => ∃ (i : Nat) (x : List Bool) (D : DataW Nat), v13 = .int .i64 (i : Int) ∧ v4 = .int .i64 (fnFar x) ∧ Aside0 (i ≤ l0.length) ∧ Aside0 (fnAgree x D) ∧ w'.ownsMap Try.prog 2 (plainElem Try.prog 3) w.heap.size i D ∧ Below w.heap.size w w' ∧ Aside0 (spec_FileNeed.l0 kq l0 x (i : Int) = some r) ∧ Aside0 (kq ≤ k))
  case atStart => exact ⟨0, List.replicate 40 false, .map [], rfl, by first | rfl | decide, ⟨Nat.zero_le _⟩, ⟨fn_start⟩, World.ownsMap_made _ _ _ _, (Below.refl _ _).alloc (Nat.le_refl _) _, H', ⟨Nat.le_refl _⟩⟩
  case round =>
    clear H'
    obtain ⟨i, x, D, rfl, rfl, HI, HA, hown, hb, HS, HK⟩ := hrel
    cases gk with
    | zero => exact absurd HS.out (by simp [spec_FileNeed.l0])
    | succ k1 =>
      have H := HS.out
      clear HS
      simp only [spec_FileNeed.l0] at H
      have hx := HA.out.1
      by_cases c2 : (i : Int) < (l0.length : Int)
      · rw [if_pos c2, if_pos (by omega)] at H
        have c2b : decide ((i : Int) < (l0.length : Int)) = true := decide_eq_true c2
        have c2c : decide (i < l0.length) = true := decide_eq_true (by omega)
        obtain ⟨ad, e1, hcell⟩ := Kd.at_int (Kd.C_below HR0.out hb) (i : Int) (by omega) c2
        cases e1
        rw [Int.toNat_natCast] at hcell
        have p1 : 0 ≤ (i : Int) := by omega
        have hil : i ≤ 100000 := by have := HL.out; omega
        obtain ⟨v, hv⟩ : ∃ v, rd l0 (i : Int) = v := ⟨_, rfl⟩
        rw [hv] at H hcell
        clear hv
        by_cases c3 : v < 0
        · rw [if_pos c3] at H
          obtain rfl := Option.some.inj H
          have hin := impl_in.calls v 0 39 false
          have HN := Aside0.mk (fun W => hin W (by unfold impl_in.f; rw [if_neg (by omega)]))
          clear H c3 hin hx
          go_wp2_with (go_at_call 77; refine (HN.out _).mono ?_; rintro e w' ⟨rfl, ⟨nd, rfl⟩⟩)
          go_ret
          exact ⟨rfl, by repeat (first | (with_reducible first | exact hb | apply below_alloc | apply pw_below_drewN | apply below_drew1) | exact hb)⟩
        rw [if_neg c3] at H
        by_cases c4 : v ≥ 40
        · rw [if_pos c4] at H
          obtain rfl := Option.some.inj H
          have hin := impl_in.calls v 0 39 false
          have HN := Aside0.mk (fun W => hin W (by unfold impl_in.f; rw [if_pos (by omega), decide_eq_false (by omega)]))
          clear H c3 c4 hin hx
          go_wp2_with (go_at_call 77; refine (HN.out _).mono ?_; rintro e w' ⟨rfl, ⟨nd, rfl⟩⟩)
          go_ret
          exact ⟨rfl, by repeat (first | (with_reducible first | exact hb | apply below_alloc | apply pw_below_drewN | apply below_drew1) | exact hb)⟩
        rw [if_neg c4, if_pos (by omega), if_pos (by omega)] at H
        obtain ⟨u, rfl⟩ := Int.eq_ofNat_of_zero_le (show 0 ≤ v by omega)
        have hu : u < 40 := by omega
        rw [show wrap64 ((i : Int) + 1) = ((i + 1 : Nat) : Int) by unfold wrap64; omega, Int.toNat_natCast] at H
        have H' := Aside0.mk H
        have hin := impl_in.calls (u : Int) 0 39 true
        have HN := Aside0.mk (fun W => hin W (by unfold impl_in.f; rw [if_pos (by omega), decide_eq_true (by omega)]))
        have hkey : keyOf Try.prog 2 (.int .i64 (u : Int)) = some (.int .i64 (u : Int)) := keyOf_int_mk Try.underlying2 (by simp [Lit.wf, IntKind.min, IntKind.max, IntKind.bits, IntKind.signed]; omega)
        have HF := Aside0.mk (fn_far_set x u (by omega))
        clear H c3 c4 hin hx
        by_cases c5 : 8 ≤ (u : Int)
        · have c5b : decide (8 ≤ (u : Int)) = true := decide_eq_true c5
          have c5c : decide (8 ≤ u) = true := decide_eq_true (by omega)
          go_wp2_with (first
            | (go_at_call 77; refine (HN.out _).mono ?_; rintro e w' ⟨rfl, ⟨nd, rfl⟩⟩)
            | (at_mapUpdate; refine wpList_mapUpdate_own _ rfl _ _ _ 89 rfl 2 3 fn_key Try.underlying89 _ w.heap.size i _ rfl (by exact hown) (by unfold maxLen; omega) _ _ _ rfl rfl hkey _ [] (plainElem_int Try.underlying3 (by decide)) ?_; intro w1 hown1 hgrow1))
          go_roundg k1
          case measure => have := HK.out; omega
          case rel => exact ⟨i + 1, x.set u true, _, by go_num, by rw [HF.out, if_pos (by omega)], ⟨by omega⟩, ⟨fn_step HA.out u hu _⟩, hown1, (by first | exact hb.grown hgrow1 hb.size (fun j hj => by cases hj; exact Nat.le_refl _) | exact (pw_below_drewN hb _).grown hgrow1 hb.size (fun j hj => by cases hj; exact Nat.le_refl _)), H', ⟨by have := HK.out; omega⟩⟩
        · have c5b : decide (8 ≤ (u : Int)) = false := decide_eq_false c5
          have c5c : decide (8 ≤ u) = false := decide_eq_false (by omega)
          go_wp2_with (first
            | (go_at_call 77; refine (HN.out _).mono ?_; rintro e w' ⟨rfl, ⟨nd, rfl⟩⟩)
            | (at_mapUpdate; refine wpList_mapUpdate_own _ rfl _ _ _ 89 rfl 2 3 fn_key Try.underlying89 _ w.heap.size i _ rfl (by exact hown) (by unfold maxLen; omega) _ _ _ rfl rfl hkey _ [] (plainElem_int Try.underlying3 (by decide)) ?_; intro w1 hown1 hgrow1))
          go_roundg k1
          case measure => have := HK.out; omega
          case rel => exact ⟨i + 1, x.set u true, _, by go_num, by rw [HF.out, if_neg (by omega)], ⟨by omega⟩, ⟨fn_step HA.out u hu _⟩, hown1, (by first | exact hb.grown hgrow1 hb.size (fun j hj => by cases hj; exact Nat.le_refl _) | exact (pw_below_drewN hb _).grown hgrow1 hb.size (fun j hj => by cases hj; exact Nat.le_refl _)), H', ⟨by have := HK.out; omega⟩⟩
      · rw [if_neg c2] at H
        have c2b : decide ((i : Int) < (l0.length : Int)) = false := decide_eq_false c2
        have c2c : decide (i < l0.length) = false := decide_eq_false (by omega)
        have hr := fn_l1 x hx k1 0 0 0 r H (by omega) (by omega) (by omega) (by omega) (by omega)
        have hcnt : (x.filter id).length ≤ 40 := by rw [← hx]; exact List.length_filter_le _ _
        have hfar : 0 ≤ fnFar x ∧ fnFar x ≤ 1 := by unfold fnFar; split <;> omega
        have hsz : size D = (x.filter id).length := HA.out.2.2.2
        have hrr : r = wrap64 ((size D : Int) + fnFar x) := by
          rw [hsz, hr]; simp only [List.drop_zero, show max 0 8 = 8 by rfl]
          unfold wrap64; unfold fnFar at hfar ⊢; omega
        have HR := Aside0.mk hrr
        clear H hr hcnt hsz hrr hx hfar
        go_wp2_with (at_len; refine wpList_len_own _ rfl _ 89 rfl 2 3 Try.underlying89 _ w.heap.size i _ rfl hown ?_)
        go_ret
        exact ⟨by rw [HR.out]; rfl, hb⟩
end


end Go.Proofs.Ytmaeofmmainmlaa.PFnPieces
