-- written by a program of this session (wip/src/print2.py)
import Derived.Test.YtkehfdadplpaeaaPFnExactLogNextx0
import Derived.Test.YtkehfdadplpaeaaPFnExactLogNextx1
namespace Go.Proofs.Ytkehfdadplpaeaa.PFnExactLogNext
open Go.RowKit Go.Proofs.YtkehfdadplpaeaaW.PrintWords Go.Proofs.YtkehfdadplpaeaaW.PrintLast Go.Proofs.YtkehfdadplpaeaaW.PrintMore
attribute [local go_sem] max2_int min2_int max_two min_two max_three min_three max_four min_four   -- for this text's walks alone
set_option linter.unusedVariables false
set_option linter.unusedSimpArgs false

/-! ### spec_ValidTxn: function 42 -/
mutual
def spec_ValidTxn.j0 : Nat → Bool → Int → List (S61) → List Int → Option (Bool)
  | 0, _, _, _, _ => none
  | k + 1, x28, x121000, x121001, x121002 => if x28 = true then (some false) else ((spec_l4HomeBlocks.f k x121001).bind fun t122 => ((spec_l4Rising.f k t122).bind fun t125 => ((spec_l4Rising.f k x121002).bind fun t126 => (if t125 = true then (spec_ValidTxn.j1 k (!t126) x121000 x121001 x121002) else (spec_ValidTxn.j1 k true x121000 x121001 x121002)))))
def spec_ValidTxn.j1 : Nat → Bool → Int → List (S61) → List Int → Option (Bool)
  | 0, _, _, _, _ => none
  | k + 1, x42, x121000, x121001, x121002 => if x42 = true then (some false) else (spec_ValidTxn.l0 k 0 x121000 x121001 x121002)
def spec_ValidTxn.l0 : Nat → Int → Int → List (S61) → List Int → Option (Bool)
  | 0, _, _, _, _ => none
  | k + 1, x8, x121000, x121001, x121002 => if x8 < (x121001.length : Int) then (if 0 ≤ x8 then (if (((rd_T61 x121001 x8).f1).length : Int) = 64 then ((spec_l4Has.f k x121002 ((rd_T61 x121001 x8).f0)).bind fun t129 => (if t129 = true then (some false) else (spec_ValidTxn.l0 k (wrap64 (x8 + 1)) x121000 x121001 x121002))) else (some false)) else (none)) else (some true)
end
def spec_ValidTxn.f (k : Nat) (a0_0 : Int) (l0_1 : List (S61)) (l0_2 : List Int) : Option (Bool) := (spec_l3GoodSeq.f a0_0).bind fun t121 => (if t121 = true then (if (wrap64 ((l0_1.length : Int) + (l0_2.length : Int))) < 1 then (spec_ValidTxn.j0 k true a0_0 l0_1 l0_2) else (spec_ValidTxn.j0 k (decide ((wrap64 ((l0_1.length : Int) + (l0_2.length : Int))) > 128)) a0_0 l0_1 l0_2)) else (spec_ValidTxn.j0 k true a0_0 l0_1 l0_2))
theorem spec_ValidTxn.mono_l : ∀ k, (∀ y0 y1 y2 y3, LeO (spec_ValidTxn.j0 k y0 y1 y2 y3) (spec_ValidTxn.j0 (k + 1) y0 y1 y2 y3)) ∧ (∀ y0 y1 y2 y3, LeO (spec_ValidTxn.j1 k y0 y1 y2 y3) (spec_ValidTxn.j1 (k + 1) y0 y1 y2 y3)) ∧ (∀ y0 y1 y2 y3, LeO (spec_ValidTxn.l0 k y0 y1 y2 y3) (spec_ValidTxn.l0 (k + 1) y0 y1 y2 y3))
  | 0 => ⟨fun _ _ _ _ r h => by simp [spec_ValidTxn.j0] at h, fun _ _ _ _ r h => by simp [spec_ValidTxn.j1] at h, fun _ _ _ _ r h => by simp [spec_ValidTxn.l0] at h⟩
  | k + 1 => by
    obtain ⟨ih0, ih1, ih2⟩ := spec_ValidTxn.mono_l k
    refine ⟨?_, ?_, ?_⟩
    · intro y0 y1 y2 y3
      unfold spec_ValidTxn.j0
      repeat' first
      | (with_reducible exact ih0 _ _ _ _)
      | (with_reducible exact ih1 _ _ _ _)
      | (with_reducible exact ih2 _ _ _ _)
      | (with_reducible exact spec_l4Has.mono _ _ _)
      | (with_reducible exact spec_l4HomeBlocks.mono _ _)
      | (with_reducible exact spec_l4Rising.mono _ _)
      | (with_reducible exact LeO.refl _)
      | (with_reducible exact LeO.none _)
      | (with_reducible refine LeO.ite ?_ ?_)
      | (with_reducible refine LeO.bind ?_ (fun _ => ?_))
      | exact ih0 _ _ _ _
      | exact ih1 _ _ _ _
      | exact ih2 _ _ _ _
      | exact spec_l4Has.mono _ _ _
      | exact spec_l4HomeBlocks.mono _ _
      | exact spec_l4Rising.mono _ _
      | exact LeO.none _
      | refine LeO.ite ?_ ?_
      | refine LeO.bind ?_ (fun _ => ?_)
    · intro y0 y1 y2 y3
      unfold spec_ValidTxn.j1
      repeat' first
      | (with_reducible exact ih0 _ _ _ _)
      | (with_reducible exact ih1 _ _ _ _)
      | (with_reducible exact ih2 _ _ _ _)
      | (with_reducible exact spec_l4Has.mono _ _ _)
      | (with_reducible exact spec_l4HomeBlocks.mono _ _)
      | (with_reducible exact spec_l4Rising.mono _ _)
      | (with_reducible exact LeO.refl _)
      | (with_reducible exact LeO.none _)
      | (with_reducible refine LeO.ite ?_ ?_)
      | (with_reducible refine LeO.bind ?_ (fun _ => ?_))
      | exact ih0 _ _ _ _
      | exact ih1 _ _ _ _
      | exact ih2 _ _ _ _
      | exact spec_l4Has.mono _ _ _
      | exact spec_l4HomeBlocks.mono _ _
      | exact spec_l4Rising.mono _ _
      | exact LeO.none _
      | refine LeO.ite ?_ ?_
      | refine LeO.bind ?_ (fun _ => ?_)
    · intro y0 y1 y2 y3
      unfold spec_ValidTxn.l0
      repeat' first
      | (with_reducible exact ih0 _ _ _ _)
      | (with_reducible exact ih1 _ _ _ _)
      | (with_reducible exact ih2 _ _ _ _)
      | (with_reducible exact spec_l4Has.mono _ _ _)
      | (with_reducible exact spec_l4HomeBlocks.mono _ _)
      | (with_reducible exact spec_l4Rising.mono _ _)
      | (with_reducible exact LeO.refl _)
      | (with_reducible exact LeO.none _)
      | (with_reducible refine LeO.ite ?_ ?_)
      | (with_reducible refine LeO.bind ?_ (fun _ => ?_))
      | exact ih0 _ _ _ _
      | exact ih1 _ _ _ _
      | exact ih2 _ _ _ _
      | exact spec_l4Has.mono _ _ _
      | exact spec_l4HomeBlocks.mono _ _
      | exact spec_l4Rising.mono _ _
      | exact LeO.none _
      | refine LeO.ite ?_ ?_
      | refine LeO.bind ?_ (fun _ => ?_)
theorem spec_ValidTxn.mono : ∀ a0 a1 a2 k, LeO (spec_ValidTxn.f k a0 a1 a2) (spec_ValidTxn.f (k + 1) a0 a1 a2) := by
  intro a0 a1 a2 k
  obtain ⟨ih0, ih1, ih2⟩ := spec_ValidTxn.mono_l k
  unfold spec_ValidTxn.f
  repeat' first
      | (with_reducible exact ih0 _ _ _ _)
      | (with_reducible exact ih1 _ _ _ _)
      | (with_reducible exact ih2 _ _ _ _)
      | (with_reducible exact spec_l4Has.mono _ _ _)
      | (with_reducible exact spec_l4HomeBlocks.mono _ _)
      | (with_reducible exact spec_l4Rising.mono _ _)
      | (with_reducible exact LeO.refl _)
      | (with_reducible exact LeO.none _)
      | (with_reducible refine LeO.ite ?_ ?_)
      | (with_reducible refine LeO.bind ?_ (fun _ => ?_))
      | exact ih0 _ _ _ _
      | exact ih1 _ _ _ _
      | exact ih2 _ _ _ _
      | exact spec_l4Has.mono _ _ _
      | exact spec_l4HomeBlocks.mono _ _
      | exact spec_l4Rising.mono _ _
      | exact LeO.none _
      | refine LeO.ite ?_ ?_
      | refine LeO.bind ?_ (fun _ => ?_)
set_option maxHeartbeats 8000000 in
set_option maxRecDepth 100000 in
theorem spec_ValidTxn.calls (k : Nat) (a0_0 : Int) (A0_1 : Option Addr) (c0_1 : Nat) (l0_1 : List (S61)) (A0_2 : Option Addr) (c0_2 : Nat) (l0_2 : List Int) (r : Bool) (w : World) (hr0_1 : Kd.C k61 w A0_1 l0_1.length l0_1) (hc0_1 : l0_1.length ≤ c0_1) (hr0_2 : Kd.C (Kd.int .i64) w A0_2 l0_2.length l0_2) (hc0_2 : l0_2.length ≤ c0_2) (h : spec_ValidTxn.f k a0_0 l0_1 l0_2 = some r) :
    Calls Try.prog 42 #[.agg #[.int .i64 a0_0, .slice A0_1 l0_1.length c0_1, .slice A0_2 l0_2.length c0_2]] w fun e w' => e = .returned (.bool r) ∧ Below w.heap.size w w' := by
  have hu34 := Try.underlying34
  have HR0_1 := Aside0.mk hr0_1
  have HC0_1 := Aside0.mk hc0_1
  clear hr0_1 hc0_1
  have HR0_2 := Aside0.mk hr0_2
  have HC0_2 := Aside0.mk hc0_2
  clear hr0_2 hc0_2
  have HB := Aside0.mk (Below.refl w.heap.size w)
  have H : ((spec_l3GoodSeq.f a0_0).bind fun t121 => (if t121 = true then (if (wrap64 ((l0_1.length : Int) + (l0_2.length : Int))) < 1 then (spec_ValidTxn.j0 k true a0_0 l0_1 l0_2) else (spec_ValidTxn.j0 k (decide ((wrap64 ((l0_1.length : Int) + (l0_2.length : Int))) > 128)) a0_0 l0_1 l0_2)) else (spec_ValidTxn.j0 k true a0_0 l0_1 l0_2))) = some r := h
  clear h
  replace H := Option.bind_eq_some_iff.mp H
  obtain ⟨t121, A20, H⟩ := H
  replace H : (if t121 = true then (if (wrap64 ((l0_1.length : Int) + (l0_2.length : Int))) < 1 then (spec_ValidTxn.j0 k true a0_0 l0_1 l0_2) else (spec_ValidTxn.j0 k (decide ((wrap64 ((l0_1.length : Int) + (l0_2.length : Int))) > 128)) a0_0 l0_1 l0_2)) else (spec_ValidTxn.j0 k true a0_0 l0_1 l0_2)) = some r := H
  have A2 := Aside0.mk A20
  clear A20
  have HC3 := Aside0.mk H
  clear H
  go_enter Try.func42, Try.ntmps42
  go_upto_region 3 with (first | ((with_reducible refine gate_dst (N := 1) rfl ?_); refine box_event ?hg (N := 1) ?hd (cs := #[.int .i64 a0_0, .slice A0_1 l0_1.length c0_1, .slice A0_2 l0_2.length c0_2]) (t := 34) ?hr ?_; (case hd => rfl); (case hg => rfl); (case hr => first | (go_simp; done) | (go_simp; rfl)); intro gb120 hg w4 hbox hb; have n0_ := Aside0.mk (below_step (Rgn.bq HB.out) hb); have n1_ := Aside0.mk (hbox); have n2_ := Aside0.mk ((by rw [hg]; exact (below_size (Rgn.bq HB.out)) : w.heap.size ≤ gb120)); have n3_ := Aside0.mk ((by rw [hg]; exact (below_size (Rgn.bq HB.out)) : w.heap.size ≤ gb120)); clear HB; have HB := n0_; have BK120 := n1_; have GW120 := n2_; have GE120 := n3_; clear n0_ n1_ n2_ n3_; clear hb hbox hg; have hcz5_0 : w4.cell? ⟨gb120, 0, none⟩ = some (.int .i64 a0_0) := (blk_cell BK120.out 0).trans rfl; have hcz5_1 : w4.cell? ⟨gb120, 1, none⟩ = some (.slice A0_1 l0_1.length c0_1) := (blk_cell BK120.out 1).trans rfl; have hcz5_2 : w4.cell? ⟨gb120, 2, none⟩ = some (.slice A0_2 l0_2.length c0_2) := (blk_cell BK120.out 2).trans rfl; have hfz5_0 := blk_frozen BK120.out 0; have hfz5_1 := blk_frozen BK120.out 1; have hfz5_2 := blk_frozen BK120.out 2) | (go_at_call 51; (with_reducible refine (spec_l3GoodSeq.calls a0_0 t121 _ A2.out).mono ?_); rintro e w' ⟨rfl, ⟨nd, rfl⟩⟩; (try first | exact ⟨rfl, _, World.drewN_drewN _ _ _⟩ | exact ⟨rfl, _, Eq.trans (World.drewN_drewN _ _ _) (congrArg (World.drewN _) (Nat.add_assoc _ _ _))⟩)))
  repeat (go_quiet (first | ((with_reducible refine gate_dst (N := 1) rfl ?_); refine box_event ?hg (N := 1) ?hd (cs := #[.int .i64 a0_0, .slice A0_1 l0_1.length c0_1, .slice A0_2 l0_2.length c0_2]) (t := 34) ?hr ?_; (case hd => rfl); (case hg => rfl); (case hr => first | (go_simp; done) | (go_simp; rfl)); intro gb120 hg w4 hbox hb; have n0_ := Aside0.mk (below_step (Rgn.bq HB.out) hb); have n1_ := Aside0.mk (hbox); have n2_ := Aside0.mk ((by rw [hg]; exact (below_size (Rgn.bq HB.out)) : w.heap.size ≤ gb120)); have n3_ := Aside0.mk ((by rw [hg]; exact (below_size (Rgn.bq HB.out)) : w.heap.size ≤ gb120)); clear HB; have HB := n0_; have BK120 := n1_; have GW120 := n2_; have GE120 := n3_; clear n0_ n1_ n2_ n3_; clear hb hbox hg; have hcz5_0 : w4.cell? ⟨gb120, 0, none⟩ = some (.int .i64 a0_0) := (blk_cell BK120.out 0).trans rfl; have hcz5_1 : w4.cell? ⟨gb120, 1, none⟩ = some (.slice A0_1 l0_1.length c0_1) := (blk_cell BK120.out 1).trans rfl; have hcz5_2 : w4.cell? ⟨gb120, 2, none⟩ = some (.slice A0_2 l0_2.length c0_2) := (blk_cell BK120.out 2).trans rfl; have hfz5_0 := blk_frozen BK120.out 0; have hfz5_1 := blk_frozen BK120.out 1; have hfz5_2 := blk_frozen BK120.out 2) | (go_at_call 51; (with_reducible refine (spec_l3GoodSeq.calls a0_0 t121 _ A2.out).mono ?_); rintro e w' ⟨rfl, ⟨nd, rfl⟩⟩; (try first | exact ⟨rfl, _, World.drewN_drewN _ _ _⟩ | exact ⟨rfl, _, Eq.trans (World.drewN_drewN _ _ _) (congrArg (World.drewN _) (Nat.add_assoc _ _ _))⟩))); go_upto_region 3 with (first | ((with_reducible refine gate_dst (N := 1) rfl ?_); refine box_event ?hg (N := 1) ?hd (cs := #[.int .i64 a0_0, .slice A0_1 l0_1.length c0_1, .slice A0_2 l0_2.length c0_2]) (t := 34) ?hr ?_; (case hd => rfl); (case hg => rfl); (case hr => first | (go_simp; done) | (go_simp; rfl)); intro gb120 hg w4 hbox hb; have n0_ := Aside0.mk (below_step (Rgn.bq HB.out) hb); have n1_ := Aside0.mk (hbox); have n2_ := Aside0.mk ((by rw [hg]; exact (below_size (Rgn.bq HB.out)) : w.heap.size ≤ gb120)); have n3_ := Aside0.mk ((by rw [hg]; exact (below_size (Rgn.bq HB.out)) : w.heap.size ≤ gb120)); clear HB; have HB := n0_; have BK120 := n1_; have GW120 := n2_; have GE120 := n3_; clear n0_ n1_ n2_ n3_; clear hb hbox hg; have hcz5_0 : w4.cell? ⟨gb120, 0, none⟩ = some (.int .i64 a0_0) := (blk_cell BK120.out 0).trans rfl; have hcz5_1 : w4.cell? ⟨gb120, 1, none⟩ = some (.slice A0_1 l0_1.length c0_1) := (blk_cell BK120.out 1).trans rfl; have hcz5_2 : w4.cell? ⟨gb120, 2, none⟩ = some (.slice A0_2 l0_2.length c0_2) := (blk_cell BK120.out 2).trans rfl; have hfz5_0 := blk_frozen BK120.out 0; have hfz5_1 := blk_frozen BK120.out 1; have hfz5_2 := blk_frozen BK120.out 2) | (go_at_call 51; (with_reducible refine (spec_l3GoodSeq.calls a0_0 t121 _ A2.out).mono ?_); rintro e w' ⟨rfl, ⟨nd, rfl⟩⟩; (try first | exact ⟨rfl, _, World.drewN_drewN _ _ _⟩ | exact ⟨rfl, _, Eq.trans (World.drewN_drewN _ _ _) (congrArg (World.drewN _) (Nat.add_assoc _ _ _))⟩))))
  (try simp only [Act.put, List.setIfInBounds_toArray, List.set_cons_zero, List.set_cons_succ])
  go_cut [28] (fun v28 wc => ∃ (kq : Nat) (x28_2 : Bool), v28 = .bool x28_2 ∧ Aside0 (spec_ValidTxn.j0 kq x28_2 a0_0 l0_1 l0_2 = some r) ∧ Aside0 (kq ≤ k) ∧ Aside0 (wc.heap[gb120]? = some (.cells #[.int .i64 a0_0, (.slice A0_1 l0_1.length c0_1), (.slice A0_2 l0_2.length c0_2)] 34 (0, 0))) ∧ Aside0 (Below w.heap.size w wc))
  case first =>
    have H := HC3.out
    clear HC3
    by_cases c6 : t121 = true
    · subst c6
      have H1 : (if (wrap64 ((l0_1.length : Int) + (l0_2.length : Int))) < 1 then (spec_ValidTxn.j0 k true a0_0 l0_1 l0_2) else (spec_ValidTxn.j0 k (decide ((wrap64 ((l0_1.length : Int) + (l0_2.length : Int))) > 128)) a0_0 l0_1 l0_2)) = some r := by rw [if_pos rfl] at H; exact H
      clear H
      have H := H1
      clear H1
      by_cases c7 : (wrap64 ((l0_1.length : Int) + (l0_2.length : Int))) < 1
      · rw [if_pos c7] at H
        have c7b0 : decide ((wrap64 ((l0_1.length : Int) + (l0_2.length : Int))) < 1) = true := decide_eq_true c7
        clear c7
        (first | rw [c7b0] | (simp only [i64_w, i32_w]; rw [c7b0]) | skip)
        have H' := Aside0.mk H
        clear H
        go_wp2
        repeat (go_quiet (fail); try go_wp2)
        go_meet
        case rel => exact ⟨_, (true), (by first | rfl | (simp; done) | (simp [*]; done)), H', ⟨by first | omega | exact Nat.le_refl _⟩, ⟨Rgn.kb BK120.out⟩, ⟨Rgn.bq HB.out⟩⟩
      · rw [if_neg c7] at H
        have c7b0 : decide ((wrap64 ((l0_1.length : Int) + (l0_2.length : Int))) < 1) = false := decide_eq_false c7
        clear c7
        (first | rw [c7b0] | (simp only [i64_w, i32_w]; rw [c7b0]) | skip)
        have H' := Aside0.mk H
        clear H
        go_wp2
        repeat (go_quiet (fail); try go_wp2)
        go_meet
        case rel => exact ⟨_, (decide ((wrap64 ((l0_1.length : Int) + (l0_2.length : Int))) > 128)), (by first | rfl | (simp; done) | (simp [*]; done)), H', ⟨by first | omega | exact Nat.le_refl _⟩, ⟨Rgn.kb BK120.out⟩, ⟨Rgn.bq HB.out⟩⟩
    · replace c6 := Bool.eq_false_iff.mpr c6
      subst c6
      have H1 : (spec_ValidTxn.j0 k true a0_0 l0_1 l0_2) = some r := by rw [if_neg (show ¬ (false = true) by decide)] at H; exact H
      clear H
      have H := H1
      clear H1
      have H' := Aside0.mk H
      clear H
      go_wp2
      repeat (go_quiet (fail); try go_wp2)
      go_meet
      case rel => exact ⟨_, (true), (by first | rfl | (simp; done) | (simp [*]; done)), H', ⟨by first | omega | exact Nat.le_refl _⟩, ⟨Rgn.kb BK120.out⟩, ⟨Rgn.bq HB.out⟩⟩
  case rest =>
    clear HC3
    try clear p2
    try clear c4
    try clear c6
    try clear p6
    try clear c7
    try clear c7b0
    try clear hcz5_0
    try clear hcz5_1
    try clear hcz5_2
    try clear hfz5_0
    try clear hfz5_1
    try clear hfz5_2
    obtain ⟨kq, x28_2, rfl, HA, HJ2, BK120, HB⟩ := hcut
    cases kq with
    | zero => exact absurd HA.out (by simp [spec_ValidTxn.j0])
    | succ kj2 =>
      have H := HA.out
      clear HA
      simp only [spec_ValidTxn.j0] at H
      by_cases c8 : x28_2 = true
      · subst c8
        have H1 : (some false) = some r := by rw [if_pos rfl] at H; exact H
        clear H
        have H := H1
        clear H1
        obtain rfl := Option.some.inj H
        go_wp2
        repeat (go_quiet (fail); try go_wp2)
        go_ret
        exact ⟨by first | rfl | (simp [errW_none, errW_some] <;> rfl) | (simp [*, errW_none, errW_some] <;> rfl), Rgn.bq HB.out⟩
      · replace c8 := Bool.eq_false_iff.mpr c8
        subst c8
        have H1 : ((spec_l4HomeBlocks.f kj2 l0_1).bind fun t122 => ((spec_l4Rising.f kj2 t122).bind fun t125 => ((spec_l4Rising.f kj2 l0_2).bind fun t126 => (if t125 = true then (spec_ValidTxn.j1 kj2 (!t126) a0_0 l0_1 l0_2) else (spec_ValidTxn.j1 kj2 true a0_0 l0_1 l0_2))))) = some r := by rw [if_neg (show ¬ (false = true) by decide)] at H; exact H
        clear H
        have H := H1
        clear H1
        replace H := Option.bind_eq_some_iff.mp H
        obtain ⟨t122, A90, H⟩ := H
        replace H : ((spec_l4Rising.f kj2 t122).bind fun t125 => ((spec_l4Rising.f kj2 l0_2).bind fun t126 => (if t125 = true then (spec_ValidTxn.j1 kj2 (!t126) a0_0 l0_1 l0_2) else (spec_ValidTxn.j1 kj2 true a0_0 l0_1 l0_2)))) = some r := H
        have A9 := Aside0.mk A90
        clear A90
        replace H := Option.bind_eq_some_iff.mp H
        obtain ⟨t125, A100, H⟩ := H
        replace H : ((spec_l4Rising.f kj2 l0_2).bind fun t126 => (if t125 = true then (spec_ValidTxn.j1 kj2 (!t126) a0_0 l0_1 l0_2) else (spec_ValidTxn.j1 kj2 true a0_0 l0_1 l0_2))) = some r := H
        have A10 := Aside0.mk A100
        clear A100
        replace H := Option.bind_eq_some_iff.mp H
        obtain ⟨t126, A110, H⟩ := H
        replace H : (if t125 = true then (spec_ValidTxn.j1 kj2 (!t126) a0_0 l0_1 l0_2) else (spec_ValidTxn.j1 kj2 true a0_0 l0_1 l0_2)) = some r := H
        have A11 := Aside0.mk A110
        clear A110
        have HC12 := Aside0.mk H
        clear H
        have hcz13_0 : wc.cell? ⟨gb120, 0, none⟩ = some (.int .i64 a0_0) := (blk_cell BK120.out 0).trans rfl
        have hcz13_1 : wc.cell? ⟨gb120, 1, none⟩ = some (.slice A0_1 l0_1.length c0_1) := (blk_cell BK120.out 1).trans rfl
        have hcz13_2 : wc.cell? ⟨gb120, 2, none⟩ = some (.slice A0_2 l0_2.length c0_2) := (blk_cell BK120.out 2).trans rfl
        have hfz13_0 := blk_frozen BK120.out 0
        have hfz13_1 := blk_frozen BK120.out 1
        have hfz13_2 := blk_frozen BK120.out 2
        go_upto_region 8 with (first | (go_at_call 52; (with_reducible refine (spec_l4HomeBlocks.calls kj2 _ _ l0_1 t122 _ ?side1 ?side2 A9.out).mono ?_); (case side1 => exact Rgn.cq (Kd.C_below HR0_1.out HB.out)); (case side2 => exact HC0_1.out); rintro e w14 ⟨v123, rfl, ho0, hb⟩; have n0_ := Aside0.mk (Kd.R_lower ho0 (below_size (Rgn.bq HB.out))); have n1_ := Aside0.mk (Rgn.bb BK120.out hb); have n2_ := Aside0.mk (below_step (Rgn.bq HB.out) hb); clear BK120; clear HB; have HO124 := n0_; have BK120 := n1_; have HB := n2_; clear n0_ n1_ n2_; (try clear hb); (try clear hb2); (try clear hk); (try clear hi); (try clear ho0); obtain ⟨Ao15, co15, eo15⟩ := Kd.R_slice HO124.out; subst eo15) | (go_at_call 53; (with_reducible refine (spec_l4Rising.calls kj2 _ _ t122 t125 _ ?side1 ?side2 A10.out).mono ?_); (case side1 => exact Rgn.cq (Kd.R_reads' HO124.out).2.2); (case side2 => exact (Kd.R_reads' HO124.out).2.1); rintro e w' ⟨rfl, ⟨nd, rfl⟩⟩; (try first | exact ⟨rfl, _, World.drewN_drewN _ _ _⟩ | exact ⟨rfl, _, Eq.trans (World.drewN_drewN _ _ _) (congrArg (World.drewN _) (Nat.add_assoc _ _ _))⟩); have hcz16_0 : w14.cell? ⟨gb120, 0, none⟩ = some (.int .i64 a0_0) := (blk_cell BK120.out 0).trans rfl; have hcz16_1 : w14.cell? ⟨gb120, 1, none⟩ = some (.slice A0_1 l0_1.length c0_1) := (blk_cell BK120.out 1).trans rfl; have hcz16_2 : w14.cell? ⟨gb120, 2, none⟩ = some (.slice A0_2 l0_2.length c0_2) := (blk_cell BK120.out 2).trans rfl; have hfz16_0 := blk_frozen BK120.out 0; have hfz16_1 := blk_frozen BK120.out 1; have hfz16_2 := blk_frozen BK120.out 2) | (go_at_call 53; (with_reducible refine (spec_l4Rising.calls kj2 _ _ l0_2 t126 _ ?side1 ?side2 A11.out).mono ?_); (case side1 => repeat (first | exact (Kd.C_below HR0_2.out (Rgn.bq HB.out)) | (with_reducible refine Kd.C_alloc ?_ _) | (with_reducible refine Kd.C_drewN ?_ _) | (with_reducible refine Kd.C_drew ?_))); (case side2 => exact HC0_2.out); rintro e w' ⟨rfl, ⟨nd, rfl⟩⟩; (try first | exact ⟨rfl, _, World.drewN_drewN _ _ _⟩ | exact ⟨rfl, _, Eq.trans (World.drewN_drewN _ _ _) (congrArg (World.drewN _) (Nat.add_assoc _ _ _))⟩)))
        repeat (go_quiet (first | (go_at_call 52; (with_reducible refine (spec_l4HomeBlocks.calls kj2 _ _ l0_1 t122 _ ?side1 ?side2 A9.out).mono ?_); (case side1 => exact Rgn.cq (Kd.C_below HR0_1.out HB.out)); (case side2 => exact HC0_1.out); rintro e w14 ⟨v123, rfl, ho0, hb⟩; have n0_ := Aside0.mk (Kd.R_lower ho0 (below_size (Rgn.bq HB.out))); have n1_ := Aside0.mk (Rgn.bb BK120.out hb); have n2_ := Aside0.mk (below_step (Rgn.bq HB.out) hb); clear BK120; clear HB; have HO124 := n0_; have BK120 := n1_; have HB := n2_; clear n0_ n1_ n2_; (try clear hb); (try clear hb2); (try clear hk); (try clear hi); (try clear ho0); obtain ⟨Ao15, co15, eo15⟩ := Kd.R_slice HO124.out; subst eo15) | (go_at_call 53; (with_reducible refine (spec_l4Rising.calls kj2 _ _ t122 t125 _ ?side1 ?side2 A10.out).mono ?_); (case side1 => exact Rgn.cq (Kd.R_reads' HO124.out).2.2); (case side2 => exact (Kd.R_reads' HO124.out).2.1); rintro e w' ⟨rfl, ⟨nd, rfl⟩⟩; (try first | exact ⟨rfl, _, World.drewN_drewN _ _ _⟩ | exact ⟨rfl, _, Eq.trans (World.drewN_drewN _ _ _) (congrArg (World.drewN _) (Nat.add_assoc _ _ _))⟩); have hcz16_0 : w14.cell? ⟨gb120, 0, none⟩ = some (.int .i64 a0_0) := (blk_cell BK120.out 0).trans rfl; have hcz16_1 : w14.cell? ⟨gb120, 1, none⟩ = some (.slice A0_1 l0_1.length c0_1) := (blk_cell BK120.out 1).trans rfl; have hcz16_2 : w14.cell? ⟨gb120, 2, none⟩ = some (.slice A0_2 l0_2.length c0_2) := (blk_cell BK120.out 2).trans rfl; have hfz16_0 := blk_frozen BK120.out 0; have hfz16_1 := blk_frozen BK120.out 1; have hfz16_2 := blk_frozen BK120.out 2) | (go_at_call 53; (with_reducible refine (spec_l4Rising.calls kj2 _ _ l0_2 t126 _ ?side1 ?side2 A11.out).mono ?_); (case side1 => repeat (first | exact (Kd.C_below HR0_2.out (Rgn.bq HB.out)) | (with_reducible refine Kd.C_alloc ?_ _) | (with_reducible refine Kd.C_drewN ?_ _) | (with_reducible refine Kd.C_drew ?_))); (case side2 => exact HC0_2.out); rintro e w' ⟨rfl, ⟨nd, rfl⟩⟩; (try first | exact ⟨rfl, _, World.drewN_drewN _ _ _⟩ | exact ⟨rfl, _, Eq.trans (World.drewN_drewN _ _ _) (congrArg (World.drewN _) (Nat.add_assoc _ _ _))⟩))); go_upto_region 8 with (first | (go_at_call 52; (with_reducible refine (spec_l4HomeBlocks.calls kj2 _ _ l0_1 t122 _ ?side1 ?side2 A9.out).mono ?_); (case side1 => exact Rgn.cq (Kd.C_below HR0_1.out HB.out)); (case side2 => exact HC0_1.out); rintro e w14 ⟨v123, rfl, ho0, hb⟩; have n0_ := Aside0.mk (Kd.R_lower ho0 (below_size (Rgn.bq HB.out))); have n1_ := Aside0.mk (Rgn.bb BK120.out hb); have n2_ := Aside0.mk (below_step (Rgn.bq HB.out) hb); clear BK120; clear HB; have HO124 := n0_; have BK120 := n1_; have HB := n2_; clear n0_ n1_ n2_; (try clear hb); (try clear hb2); (try clear hk); (try clear hi); (try clear ho0); obtain ⟨Ao15, co15, eo15⟩ := Kd.R_slice HO124.out; subst eo15) | (go_at_call 53; (with_reducible refine (spec_l4Rising.calls kj2 _ _ t122 t125 _ ?side1 ?side2 A10.out).mono ?_); (case side1 => exact Rgn.cq (Kd.R_reads' HO124.out).2.2); (case side2 => exact (Kd.R_reads' HO124.out).2.1); rintro e w' ⟨rfl, ⟨nd, rfl⟩⟩; (try first | exact ⟨rfl, _, World.drewN_drewN _ _ _⟩ | exact ⟨rfl, _, Eq.trans (World.drewN_drewN _ _ _) (congrArg (World.drewN _) (Nat.add_assoc _ _ _))⟩); have hcz16_0 : w14.cell? ⟨gb120, 0, none⟩ = some (.int .i64 a0_0) := (blk_cell BK120.out 0).trans rfl; have hcz16_1 : w14.cell? ⟨gb120, 1, none⟩ = some (.slice A0_1 l0_1.length c0_1) := (blk_cell BK120.out 1).trans rfl; have hcz16_2 : w14.cell? ⟨gb120, 2, none⟩ = some (.slice A0_2 l0_2.length c0_2) := (blk_cell BK120.out 2).trans rfl; have hfz16_0 := blk_frozen BK120.out 0; have hfz16_1 := blk_frozen BK120.out 1; have hfz16_2 := blk_frozen BK120.out 2) | (go_at_call 53; (with_reducible refine (spec_l4Rising.calls kj2 _ _ l0_2 t126 _ ?side1 ?side2 A11.out).mono ?_); (case side1 => repeat (first | exact (Kd.C_below HR0_2.out (Rgn.bq HB.out)) | (with_reducible refine Kd.C_alloc ?_ _) | (with_reducible refine Kd.C_drewN ?_ _) | (with_reducible refine Kd.C_drew ?_))); (case side2 => exact HC0_2.out); rintro e w' ⟨rfl, ⟨nd, rfl⟩⟩; (try first | exact ⟨rfl, _, World.drewN_drewN _ _ _⟩ | exact ⟨rfl, _, Eq.trans (World.drewN_drewN _ _ _) (congrArg (World.drewN _) (Nat.add_assoc _ _ _))⟩))))
        (try simp only [Act.put, List.setIfInBounds_toArray, List.set_cons_zero, List.set_cons_succ])
        go_cut [42] (fun v42 wc => ∃ (kq : Nat) (x42_11 : Bool), v42 = .bool x42_11 ∧ Aside0 (spec_ValidTxn.j1 kq x42_11 a0_0 l0_1 l0_2 = some r) ∧ Aside0 (kq ≤ kj2) ∧ Aside0 (wc.heap[gb120]? = some (.cells #[.int .i64 a0_0, (.slice A0_1 l0_1.length c0_1), (.slice A0_2 l0_2.length c0_2)] 34 (0, 0))) ∧ Aside0 (Below w.heap.size w wc))
        case first =>
          have H := HC12.out
          clear HC12
          by_cases c17 : t125 = true
          · subst c17
            have H1 : (spec_ValidTxn.j1 kj2 (!t126) a0_0 l0_1 l0_2) = some r := by rw [if_pos rfl] at H; exact H
            clear H
            have H := H1
            clear H1
            have H' := Aside0.mk H
            clear H
            go_wp2
            repeat (go_quiet (fail); try go_wp2)
            go_meet
            case rel => exact ⟨_, (!t126), (by first | rfl | (simp; done) | (simp [*]; done)), H', ⟨by have := HJ2.out; first | omega | exact Nat.le_refl _⟩, ⟨Rgn.kb BK120.out⟩, ⟨Rgn.bq HB.out⟩⟩
          · replace c17 := Bool.eq_false_iff.mpr c17
            subst c17
            have H1 : (spec_ValidTxn.j1 kj2 true a0_0 l0_1 l0_2) = some r := by rw [if_neg (show ¬ (false = true) by decide)] at H; exact H
            clear H
            have H := H1
            clear H1
            have H' := Aside0.mk H
            clear H
            go_wp2
            repeat (go_quiet (fail); try go_wp2)
            go_meet
            case rel => exact ⟨_, (true), (by first | rfl | (simp; done) | (simp [*]; done)), H', ⟨by have := HJ2.out; first | omega | exact Nat.le_refl _⟩, ⟨Rgn.kb BK120.out⟩, ⟨Rgn.bq HB.out⟩⟩
        case rest =>
          clear HC12
          try clear c1
          try clear p2
          try clear c4
          try clear c6
          try clear p6
          try clear c7
          try clear c7b0
          try clear c8
          try clear c17
          try clear hcz13_0
          try clear hcz13_1
          try clear hcz13_2
          try clear hcz16_0
          try clear hcz16_1
          try clear hcz16_2
          try clear hcz5_0
          try clear hcz5_1
          try clear hcz5_2
          try clear hfz13_0
          try clear hfz13_1
          try clear hfz13_2
          try clear hfz16_0
          try clear hfz16_1
          try clear hfz16_2
          try clear hfz5_0
          try clear hfz5_1
          try clear hfz5_2
          try clear p2
          try clear p6
          obtain ⟨kq, x42_11, rfl, HA, HJ11, BK120, HB⟩ := hcut
          cases kq with
          | zero => exact absurd HA.out (by simp [spec_ValidTxn.j1])
          | succ kj11 =>
            have H := HA.out
            clear HA
            simp only [spec_ValidTxn.j1] at H
            by_cases c18 : x42_11 = true
            · subst c18
              have H1 : (some false) = some r := by rw [if_pos rfl] at H; exact H
              clear H
              have H := H1
              clear H1
              obtain rfl := Option.some.inj H
              go_wp2
              repeat (go_quiet (fail); try go_wp2)
              go_ret
              exact ⟨by first | rfl | (simp [errW_none, errW_some] <;> rfl) | (simp [*, errW_none, errW_some] <;> rfl), Rgn.bq HB.out⟩
            · replace c18 := Bool.eq_false_iff.mpr c18
              subst c18
              have H1 : (spec_ValidTxn.l0 kj11 0 a0_0 l0_1 l0_2) = some r := by rw [if_neg (show ¬ (false = true) by decide)] at H; exact H
              clear H
              have H := H1
              clear H1
              have H' := Aside0.mk H
              clear H
              go_wp2
              repeat (go_quiet (fail); try go_wp2)
              go_loopg [8] kj11 (fun kq v8 w' => ∃ (x8_3 : Int), v8 = .int .i64 x8_3 ∧ Aside0 (spec_ValidTxn.l0 kq x8_3 a0_0 l0_1 l0_2 = some r) ∧ Aside0 (kq ≤ kj11) ∧ Aside0 (w'.heap[gb120]? = some (.cells #[.int .i64 a0_0, (.slice A0_1 l0_1.length c0_1), (.slice A0_2 l0_2.length c0_2)] 34 (0, 0))) ∧ Aside0 (Below w.heap.size w w'))
              case atStart => exact ⟨(0), (by first | rfl | (simp; done) | (simp [*]; done)), H', ⟨Nat.le_refl _⟩, ⟨Rgn.kb BK120.out⟩, ⟨Rgn.bq HB.out⟩⟩
              case round =>
                clear H'
                try clear c1
                try clear p2
                try clear c4
                try clear c6
                try clear p6
                try clear c7
                try clear c7b0
                try clear c8
                try clear c17
                try clear c18
                try clear hcz13_0
                try clear hcz13_1
                try clear hcz13_2
                try clear hcz16_0
                try clear hcz16_1
                try clear hcz16_2
                try clear hcz5_0
                try clear hcz5_1
                try clear hcz5_2
                try clear hfz13_0
                try clear hfz13_1
                try clear hfz13_2
                try clear hfz16_0
                try clear hfz16_1
                try clear hfz16_2
                try clear hfz5_0
                try clear hfz5_1
                try clear hfz5_2
                try clear p2
                try clear p6
                obtain ⟨x8_3, rfl, HA, HK3, BK120, HB⟩ := hrel
                cases gk with
                | zero => exact absurd HA.out (by simp [spec_ValidTxn.l0])
                | succ k3 =>
                  have H := HA.out
                  clear HA
                  simp only [spec_ValidTxn.l0] at H
                  by_cases c19 : x8_3 < (l0_1.length : Int)
                  · rw [if_pos c19] at H
                    have c19b0 : decide (x8_3 < (l0_1.length : Int)) = true := decide_eq_true c19
                    clear c19
                    by_cases c20 : 0 ≤ x8_3
                    · rw [if_pos c20] at H
                      have c20b0 : decide (0 ≤ x8_3) = true := decide_eq_true c20
                      clear c20
                      by_cases c21 : (((rd_T61 l0_1 x8_3).f1).length : Int) = 64
                      · rw [if_pos c21] at H
                        have c21b0 : ((((rd_T61 l0_1 x8_3).f1).length : Int) == 64) = true := beq_iff_eq.mpr c21
                        have c21b1 : ((((rd_T61 l0_1 x8_3).f1).length : Int) != 64) = false := bne_eq_false_iff_eq.mpr c21
                        clear c21
                        replace H := Option.bind_eq_some_iff.mp H
                        obtain ⟨t129, A220, H⟩ := H
                        replace H : (if t129 = true then (some false) else (spec_ValidTxn.l0 k3 (wrap64 (x8_3 + 1)) a0_0 l0_1 l0_2)) = some r := H
                        have A22 := Aside0.mk A220
                        clear A220
                        by_cases c23 : t129 = true
                        · subst c23
                          have H1 : (some false) = some r := by rw [if_pos rfl] at H; exact H
                          clear H
                          have H := H1
                          clear H1
                          obtain rfl := Option.some.inj H
                          have hcz24_0 : wr.cell? ⟨gb120, 0, none⟩ = some (.int .i64 a0_0) := (blk_cell BK120.out 0).trans rfl
                          have hcz24_1 : wr.cell? ⟨gb120, 1, none⟩ = some (.slice A0_1 l0_1.length c0_1) := (blk_cell BK120.out 1).trans rfl
                          have hcz24_2 : wr.cell? ⟨gb120, 2, none⟩ = some (.slice A0_2 l0_2.length c0_2) := (blk_cell BK120.out 2).trans rfl
                          have hfz24_0 := blk_frozen BK120.out 0
                          have hfz24_1 := blk_frozen BK120.out 1
                          have hfz24_2 := blk_frozen BK120.out 2
                          have p127 : 0 ≤ (x8_3 : Int) := of_decide_eq_true (by first | (with_reducible assumption) | assumption)
                          have q127 : x8_3 < (l0_1.length : Int) := of_decide_eq_true (by first | (with_reducible assumption) | assumption)
                          obtain ⟨ad127, A127_1, c127_1, e127, hx127_0, hx127_1, hl127_1, hi127_1⟩ := at_T61 HR0_1.out x8_3 p127 q127
                          cases e127
                          replace hx127_0 := (HB.out.cell (World.block_lt_of_cell? w _ hx127_0)).trans hx127_0
                          replace hx127_1 := (HB.out.cell (World.block_lt_of_cell? w _ hx127_1)).trans hx127_1
                          have HR127_1 := Aside0.mk hi127_1
                          have HC127_1 := Aside0.mk hl127_1
                          clear hi127_1 hl127_1
                          replace p127 := eq_true p127
                          replace q127 := eq_true q127
                          have p128 : 0 ≤ (x8_3 : Int) := of_decide_eq_true (by first | (with_reducible assumption) | assumption)
                          have q128 : x8_3 < (l0_1.length : Int) := of_decide_eq_true (by first | (with_reducible assumption) | assumption)
                          obtain ⟨ad128, A128_1, c128_1, e128, hx128_0, hx128_1, hl128_1, hi128_1⟩ := at_T61 HR0_1.out x8_3 p128 q128
                          obtain rfl : ad127 = ad128 := (by injection e128)
                          replace hx128_0 := (HB.out.cell (World.block_lt_of_cell? w _ hx128_0)).trans hx128_0
                          replace hx128_1 := (HB.out.cell (World.block_lt_of_cell? w _ hx128_1)).trans hx128_1
                          have HR128_1 := Aside0.mk hi128_1
                          have HC128_1 := Aside0.mk hl128_1
                          clear hi128_1 hl128_1
                          replace p128 := eq_true p128
                          replace q128 := eq_true q128
                          have ea_ := Option.some.inj (hx127_1.symm.trans hx128_1)
                          injection ea_ with ea_ en_ ec_
                          subst ea_
                          subst ec_
                          clear en_
                          go_wp2_with (first | (go_at_call 54; (with_reducible refine (spec_l4Has.calls k3 _ _ l0_2 ((rd_T61 l0_1 x8_3).f0) true _ ?side1 ?side2 A22.out).mono ?_); (case side1 => exact Rgn.cq (Kd.C_below HR0_2.out HB.out)); (case side2 => exact HC0_2.out); rintro e w' ⟨rfl, ⟨nd, rfl⟩⟩; (try first | exact ⟨rfl, _, World.drewN_drewN _ _ _⟩ | exact ⟨rfl, _, Eq.trans (World.drewN_drewN _ _ _) (congrArg (World.drewN _) (Nat.add_assoc _ _ _))⟩)))
                          repeat (go_quiet (first | (go_at_call 54; (with_reducible refine (spec_l4Has.calls k3 _ _ l0_2 ((rd_T61 l0_1 x8_3).f0) true _ ?side1 ?side2 A22.out).mono ?_); (case side1 => exact Rgn.cq (Kd.C_below HR0_2.out HB.out)); (case side2 => exact HC0_2.out); rintro e w' ⟨rfl, ⟨nd, rfl⟩⟩; (try first | exact ⟨rfl, _, World.drewN_drewN _ _ _⟩ | exact ⟨rfl, _, Eq.trans (World.drewN_drewN _ _ _) (congrArg (World.drewN _) (Nat.add_assoc _ _ _))⟩))); try go_wp2_with (first | (go_at_call 54; (with_reducible refine (spec_l4Has.calls k3 _ _ l0_2 ((rd_T61 l0_1 x8_3).f0) true _ ?side1 ?side2 A22.out).mono ?_); (case side1 => exact Rgn.cq (Kd.C_below HR0_2.out HB.out)); (case side2 => exact HC0_2.out); rintro e w' ⟨rfl, ⟨nd, rfl⟩⟩; (try first | exact ⟨rfl, _, World.drewN_drewN _ _ _⟩ | exact ⟨rfl, _, Eq.trans (World.drewN_drewN _ _ _) (congrArg (World.drewN _) (Nat.add_assoc _ _ _))⟩))))
                          go_ret
                          exact ⟨by first | rfl | (simp [errW_none, errW_some] <;> rfl) | (simp [*, errW_none, errW_some] <;> rfl), Rgn.bq HB.out⟩
                        · replace c23 := Bool.eq_false_iff.mpr c23
                          subst c23
                          have H1 : (spec_ValidTxn.l0 k3 (wrap64 (x8_3 + 1)) a0_0 l0_1 l0_2) = some r := by rw [if_neg (show ¬ (false = true) by decide)] at H; exact H
                          clear H
                          have H := H1
                          clear H1
                          have H' := Aside0.mk H
                          clear H
                          have hcz25_0 : wr.cell? ⟨gb120, 0, none⟩ = some (.int .i64 a0_0) := (blk_cell BK120.out 0).trans rfl
                          have hcz25_1 : wr.cell? ⟨gb120, 1, none⟩ = some (.slice A0_1 l0_1.length c0_1) := (blk_cell BK120.out 1).trans rfl
                          have hcz25_2 : wr.cell? ⟨gb120, 2, none⟩ = some (.slice A0_2 l0_2.length c0_2) := (blk_cell BK120.out 2).trans rfl
                          have hfz25_0 := blk_frozen BK120.out 0
                          have hfz25_1 := blk_frozen BK120.out 1
                          have hfz25_2 := blk_frozen BK120.out 2
                          have p127 : 0 ≤ (x8_3 : Int) := of_decide_eq_true (by first | (with_reducible assumption) | assumption)
                          have q127 : x8_3 < (l0_1.length : Int) := of_decide_eq_true (by first | (with_reducible assumption) | assumption)
                          obtain ⟨ad127, A127_1, c127_1, e127, hx127_0, hx127_1, hl127_1, hi127_1⟩ := at_T61 HR0_1.out x8_3 p127 q127
                          cases e127
                          replace hx127_0 := (HB.out.cell (World.block_lt_of_cell? w _ hx127_0)).trans hx127_0
                          replace hx127_1 := (HB.out.cell (World.block_lt_of_cell? w _ hx127_1)).trans hx127_1
                          have HR127_1 := Aside0.mk hi127_1
                          have HC127_1 := Aside0.mk hl127_1
                          clear hi127_1 hl127_1
                          replace p127 := eq_true p127
                          replace q127 := eq_true q127
                          have p128 : 0 ≤ (x8_3 : Int) := of_decide_eq_true (by first | (with_reducible assumption) | assumption)
                          have q128 : x8_3 < (l0_1.length : Int) := of_decide_eq_true (by first | (with_reducible assumption) | assumption)
                          obtain ⟨ad128, A128_1, c128_1, e128, hx128_0, hx128_1, hl128_1, hi128_1⟩ := at_T61 HR0_1.out x8_3 p128 q128
                          obtain rfl : ad127 = ad128 := (by injection e128)
                          replace hx128_0 := (HB.out.cell (World.block_lt_of_cell? w _ hx128_0)).trans hx128_0
                          replace hx128_1 := (HB.out.cell (World.block_lt_of_cell? w _ hx128_1)).trans hx128_1
                          have HR128_1 := Aside0.mk hi128_1
                          have HC128_1 := Aside0.mk hl128_1
                          clear hi128_1 hl128_1
                          replace p128 := eq_true p128
                          replace q128 := eq_true q128
                          have ea_ := Option.some.inj (hx127_1.symm.trans hx128_1)
                          injection ea_ with ea_ en_ ec_
                          subst ea_
                          subst ec_
                          clear en_
                          go_wp2_with (first | (go_at_call 54; (with_reducible refine (spec_l4Has.calls k3 _ _ l0_2 ((rd_T61 l0_1 x8_3).f0) false _ ?side1 ?side2 A22.out).mono ?_); (case side1 => exact Rgn.cq (Kd.C_below HR0_2.out HB.out)); (case side2 => exact HC0_2.out); rintro e w' ⟨rfl, ⟨nd, rfl⟩⟩; (try first | exact ⟨rfl, _, World.drewN_drewN _ _ _⟩ | exact ⟨rfl, _, Eq.trans (World.drewN_drewN _ _ _) (congrArg (World.drewN _) (Nat.add_assoc _ _ _))⟩)))
                          repeat (go_quiet (first | (go_at_call 54; (with_reducible refine (spec_l4Has.calls k3 _ _ l0_2 ((rd_T61 l0_1 x8_3).f0) false _ ?side1 ?side2 A22.out).mono ?_); (case side1 => exact Rgn.cq (Kd.C_below HR0_2.out HB.out)); (case side2 => exact HC0_2.out); rintro e w' ⟨rfl, ⟨nd, rfl⟩⟩; (try first | exact ⟨rfl, _, World.drewN_drewN _ _ _⟩ | exact ⟨rfl, _, Eq.trans (World.drewN_drewN _ _ _) (congrArg (World.drewN _) (Nat.add_assoc _ _ _))⟩))); try go_wp2_with (first | (go_at_call 54; (with_reducible refine (spec_l4Has.calls k3 _ _ l0_2 ((rd_T61 l0_1 x8_3).f0) false _ ?side1 ?side2 A22.out).mono ?_); (case side1 => exact Rgn.cq (Kd.C_below HR0_2.out HB.out)); (case side2 => exact HC0_2.out); rintro e w' ⟨rfl, ⟨nd, rfl⟩⟩; (try first | exact ⟨rfl, _, World.drewN_drewN _ _ _⟩ | exact ⟨rfl, _, Eq.trans (World.drewN_drewN _ _ _) (congrArg (World.drewN _) (Nat.add_assoc _ _ _))⟩))))
                          go_roundg k3
                          case measure => have := HJ2.out; have := HJ11.out; have := HK3.out; omega
                          case rel => exact ⟨(wrap64 (x8_3 + 1)), (by first | rfl | (simp; done) | (simp [*]; done)), H', ⟨by have := HJ2.out; have := HJ11.out; have := HK3.out; omega⟩, ⟨Rgn.kb BK120.out⟩, ⟨Rgn.bq HB.out⟩⟩
                      · rw [if_neg c21] at H
                        have c21b0 : ((((rd_T61 l0_1 x8_3).f1).length : Int) == 64) = false := beq_eq_false_iff_ne.mpr c21
                        have c21b1 : ((((rd_T61 l0_1 x8_3).f1).length : Int) != 64) = true := bne_iff_ne.mpr c21
                        obtain rfl := Option.some.inj H
                        have hcz26_0 : wr.cell? ⟨gb120, 0, none⟩ = some (.int .i64 a0_0) := (blk_cell BK120.out 0).trans rfl
                        have hcz26_1 : wr.cell? ⟨gb120, 1, none⟩ = some (.slice A0_1 l0_1.length c0_1) := (blk_cell BK120.out 1).trans rfl
                        have hcz26_2 : wr.cell? ⟨gb120, 2, none⟩ = some (.slice A0_2 l0_2.length c0_2) := (blk_cell BK120.out 2).trans rfl
                        have hfz26_0 := blk_frozen BK120.out 0
                        have hfz26_1 := blk_frozen BK120.out 1
                        have hfz26_2 := blk_frozen BK120.out 2
                        have p127 : 0 ≤ (x8_3 : Int) := of_decide_eq_true (by first | (with_reducible assumption) | assumption)
                        have q127 : x8_3 < (l0_1.length : Int) := of_decide_eq_true (by first | (with_reducible assumption) | assumption)
                        obtain ⟨ad127, A127_1, c127_1, e127, hx127_0, hx127_1, hl127_1, hi127_1⟩ := at_T61 HR0_1.out x8_3 p127 q127
                        cases e127
                        replace hx127_0 := (HB.out.cell (World.block_lt_of_cell? w _ hx127_0)).trans hx127_0
                        replace hx127_1 := (HB.out.cell (World.block_lt_of_cell? w _ hx127_1)).trans hx127_1
                        have HR127_1 := Aside0.mk hi127_1
                        have HC127_1 := Aside0.mk hl127_1
                        clear hi127_1 hl127_1
                        replace p127 := eq_true p127
                        replace q127 := eq_true q127
                        go_wp2
                        repeat (go_quiet (fail); try go_wp2)
                        go_ret
                        exact ⟨by first | rfl | (simp [errW_none, errW_some] <;> rfl) | (simp [*, errW_none, errW_some] <;> rfl), Rgn.bq HB.out⟩
                    · rw [if_neg c20] at H
                      exact absurd H (by simp)
                  · rw [if_neg c19] at H
                    have c19b0 : decide (x8_3 < (l0_1.length : Int)) = false := decide_eq_false c19
                    clear c19
                    obtain rfl := Option.some.inj H
                    have hcz27_0 : wr.cell? ⟨gb120, 0, none⟩ = some (.int .i64 a0_0) := (blk_cell BK120.out 0).trans rfl
                    have hcz27_1 : wr.cell? ⟨gb120, 1, none⟩ = some (.slice A0_1 l0_1.length c0_1) := (blk_cell BK120.out 1).trans rfl
                    have hcz27_2 : wr.cell? ⟨gb120, 2, none⟩ = some (.slice A0_2 l0_2.length c0_2) := (blk_cell BK120.out 2).trans rfl
                    have hfz27_0 := blk_frozen BK120.out 0
                    have hfz27_1 := blk_frozen BK120.out 1
                    have hfz27_2 := blk_frozen BK120.out 2
                    go_wp2
                    repeat (go_quiet (fail); try go_wp2)
                    go_ret
                    exact ⟨by first | rfl | (simp [errW_none, errW_some] <;> rfl) | (simp [*, errW_none, errW_some] <;> rfl), Rgn.bq HB.out⟩

/-! ### spec_l1Copy: function 47 -/
def spec_l1Copy.f (l0 : List Int) : Option (List Int) := (some (([] : List Int) : List Int)).bind fun y130 => (if y130.length + l0.length < 140737488355328 then (some (y130 ++ l0)) else (none))
set_option maxHeartbeats 8000000 in
set_option maxRecDepth 100000 in
theorem spec_l1Copy.calls (A0 : Option Addr) (c0 : Nat) (l0 : List Int) (r : List Int) (w : World) (hr0 : Kd.C (Kd.int .u8) w A0 l0.length l0) (hc0 : l0.length ≤ c0) (h : spec_l1Copy.f l0 = some r) :
    Calls Try.prog 47 #[.slice A0 l0.length c0] w fun e w' => ∃ v0_ : Value, e = .returned (v0_) ∧ Kd.R (Kd.int .u8) 5 w' w.heap.size (fun _ => True) v0_ r ∧ Below w.heap.size w w' := by
  have HR0 := Aside0.mk hr0
  have HC0 := Aside0.mk hc0
  clear hr0 hc0
  have HB := Aside0.mk (Below.refl w.heap.size w)
  have H : ((some (([] : List Int) : List Int)).bind fun y130 => (if y130.length + l0.length < 140737488355328 then (some (y130 ++ l0)) else (none))) = some r := h
  clear h
  obtain ⟨y130, hy130⟩ : ∃ y_ : List Int, y_ = (([] : List Int)) := ⟨_, rfl⟩
  replace H : (if y130.length + l0.length < 140737488355328 then (some (y130 ++ l0)) else (none)) = some r := by first | (rw [hy130]; with_reducible exact H) | (have H2_ := (Option.bind_some _ _).symm.trans H; rw [hy130]; with_reducible exact H2_) | (have H2_ := (Option.bind_some _ _).symm.trans H; with_reducible exact H2_) | with_reducible exact H | (rw [hy130]; exact H) | exact H
  have Ny130 := Aside0.mk hy130
  clear hy130
  by_cases c2 : y130.length + l0.length < 140737488355328
  · rw [if_pos c2] at H
    have LMc2 := Aside0.mk c2
    clear c2
    obtain ⟨y133, hy133⟩ : ∃ y_ : List Int, y_ = (y130 ++ l0) := ⟨_, rfl⟩
    replace H : (some y133) = some r := by first | (rw [hy133]; with_reducible exact H) | (have H2_ := (Option.bind_some _ _).symm.trans H; rw [hy133]; with_reducible exact H2_) | (have H2_ := (Option.bind_some _ _).symm.trans H; with_reducible exact H2_) | with_reducible exact H | (rw [hy133]; exact H) | exact H
    have Ny133 := Aside0.mk hy133
    clear hy133
    obtain rfl := Option.some.inj H
    go_enter Try.func47, Try.ntmps47
    go_wp2_with (first | ((with_reducible refine gate_dst (N := 3) rfl ?_); refine Kd.R_lit (Kd.int .u8) _ 5 ?hg (N := 3) ?hd (xs := ([] : List Int)) (inner := []) (ok := fun _ => True) (okp := fun _ => True) ?hr ?hp (fun _ hk => hk) trivial (Below.refl _ _) (Nat.le_refl _) (by simp) ?_; (case hd => rfl); (case hg => rfl); (case hr => first | (go_simp; done) | (go_simp; rfl)); (case hp => exact (Reps.none _ _)); intro v131 w3 ho4 hb hg_ hnew_; clear hg_ hnew_; (first | rw [← Ny130.out] at ho4 | (simp only [Int.reduceToNat] at ho4; rw [← Ny130.out] at ho4)); have n0_ := Aside0.mk (Kd.R_lower ho4 (below_size (Rgn.bq HB.out))); have n1_ := Aside0.mk (below_step (Rgn.bq HB.out) hb); clear HB; have HO132 := n0_; have HB := n1_; clear n0_ n1_; clear hb ho4) | ((with_reducible refine gate_builtin (b := .append) (xs := #[.tmp 3, .tmp 4]) rfl ?_); at_builtin; refine Kd.R_append_rows (Kd.int .u8) (w0 := w) w.heap.size rfl (.tmp 3) (.tmp 4) 59 5 (.int .u8 0) 1 rfl Try.underlying59 info5 rfl (by decide) (by omega) v131 y130 l0 _ _ _ (fun _ => True) (fun _ => False) rfl rfl ?aO ?aR (fun _ _ h => h) (fun _ h => h.elim) ?aF ?aB ?aS ?aL ?_; (case aR => exact Rgn.cq (Kd.C_below HR0.out HB.out)); (case aB => exact (Rgn.bq HB.out)); (case aF => exact (fun _ _ => trivial)); (case aO => exact (Rgn.rq HO132.out)); (case aS => exact (below_size (Rgn.bq HB.out))); (case aL => have := LMc2.out; omega); intro v134 w5 ho hb hg hat; rw [← Ny133.out] at ho; have n0_ := Aside0.mk (hb); have n1_ := Aside0.mk (ho); clear HB; clear HO132; have HB := n0_; have HO135 := n1_; clear n0_ n1_; clear ho hb hg hat))
    go_ret
    exact ⟨_, by first | rfl | (simp [errW_none, errW_some] <;> rfl) | (simp [*, errW_none, errW_some] <;> rfl), Rgn.rq HO135.out, Rgn.bq HB.out⟩
  · rw [if_neg c2] at H
    exact absurd H (by simp)

/-! ### spec_l2Join: function 57 -/
def spec_l2Join.f (l0 : List Int) (l1 : List Int) : Option (List Int) := (spec_l1Copy.f l0).bind fun t136 => (if t136.length + l1.length < 140737488355328 then (some (t136 ++ l1)) else (none))
set_option maxHeartbeats 8000000 in
set_option maxRecDepth 100000 in
theorem spec_l2Join.calls (A0 : Option Addr) (c0 : Nat) (l0 : List Int) (A1 : Option Addr) (c1 : Nat) (l1 : List Int) (r : List Int) (w : World) (hr0 : Kd.C (Kd.int .u8) w A0 l0.length l0) (hc0 : l0.length ≤ c0) (hr1 : Kd.C (Kd.int .u8) w A1 l1.length l1) (hc1 : l1.length ≤ c1) (h : spec_l2Join.f l0 l1 = some r) :
    Calls Try.prog 57 #[.slice A0 l0.length c0, .slice A1 l1.length c1] w fun e w' => ∃ v0_ : Value, e = .returned (v0_) ∧ Kd.R (Kd.int .u8) 5 w' w.heap.size (fun _ => True) v0_ r ∧ Below w.heap.size w w' := by
  have HR0 := Aside0.mk hr0
  have HC0 := Aside0.mk hc0
  clear hr0 hc0
  have HR1 := Aside0.mk hr1
  have HC1 := Aside0.mk hc1
  clear hr1 hc1
  have HB := Aside0.mk (Below.refl w.heap.size w)
  have H : ((spec_l1Copy.f l0).bind fun t136 => (if t136.length + l1.length < 140737488355328 then (some (t136 ++ l1)) else (none))) = some r := h
  clear h
  replace H := Option.bind_eq_some_iff.mp H
  obtain ⟨t136, A30, H⟩ := H
  replace H : (if t136.length + l1.length < 140737488355328 then (some (t136 ++ l1)) else (none)) = some r := H
  have A3 := Aside0.mk A30
  clear A30
  by_cases c4 : t136.length + l1.length < 140737488355328
  · rw [if_pos c4] at H
    have LMc4 := Aside0.mk c4
    clear c4
    obtain ⟨y139, hy139⟩ : ∃ y_ : List Int, y_ = (t136 ++ l1) := ⟨_, rfl⟩
    replace H : (some y139) = some r := by first | (rw [hy139]; with_reducible exact H) | (have H2_ := (Option.bind_some _ _).symm.trans H; rw [hy139]; with_reducible exact H2_) | (have H2_ := (Option.bind_some _ _).symm.trans H; with_reducible exact H2_) | with_reducible exact H | (rw [hy139]; exact H) | exact H
    have Ny139 := Aside0.mk hy139
    clear hy139
    obtain rfl := Option.some.inj H
    go_enter Try.func57, Try.ntmps57
    go_wp2_with (first | ((with_reducible refine gate_callee (f := 47) rfl ?_); refine Rgn.gl (some 7) Try.func47 #[.slice A0 l0.length c0] ?_; (with_reducible refine (spec_l1Copy.calls _ _ l0 t136 _ ?side1 ?side2 A3.out).mono ?_); (case side1 => repeat (first | exact HR0.out | (with_reducible refine Kd.C_alloc ?_ _) | (with_reducible refine Kd.C_drewN ?_ _) | (with_reducible refine Kd.C_drew ?_))); (case side2 => exact HC0.out); rintro e w5 ⟨v137, rfl, ho0, hb⟩; refine ⟨_, rfl, ?_⟩; have n0_ := Aside0.mk (Kd.R_lower ho0 (below_size (Rgn.bq HB.out))); have n1_ := Aside0.mk (below_step (Rgn.bq HB.out) hb); clear HB; have HO138 := n0_; have HB := n1_; clear n0_ n1_; (try clear hb); (try clear hb2); (try clear hk); (try clear hi); (try clear ho0)) | ((with_reducible refine gate_builtin (b := .append) (xs := #[.tmp 8, .tmp 9]) rfl ?_); at_builtin; refine Kd.R_append_rows (Kd.int .u8) (w0 := w) w.heap.size rfl (.tmp 8) (.tmp 9) 59 5 (.int .u8 0) 1 rfl Try.underlying59 info5 rfl (by decide) (by omega) v137 t136 l1 _ _ _ (fun _ => True) (fun _ => False) rfl rfl ?aO ?aR (fun _ _ h => h) (fun _ h => h.elim) ?aF ?aB ?aS ?aL ?_; (case aR => exact Rgn.cq (Kd.C_below HR1.out HB.out)); (case aB => exact (Rgn.bq HB.out)); (case aF => exact (fun _ _ => trivial)); (case aO => exact (Rgn.rq HO138.out)); (case aS => exact (below_size (Rgn.bq HB.out))); (case aL => have := LMc4.out; omega); intro v140 w6 ho hb hg hat; rw [← Ny139.out] at ho; have n0_ := Aside0.mk (hb); have n1_ := Aside0.mk (ho); clear HB; clear HO138; have HB := n0_; have HO141 := n1_; clear n0_ n1_; clear ho hb hg hat))
    go_ret
    exact ⟨_, by first | rfl | (simp [errW_none, errW_some] <;> rfl) | (simp [*, errW_none, errW_some] <;> rfl), Rgn.rq HO141.out, Rgn.bq HB.out⟩
  · rw [if_neg c4] at H
    exact absurd H (by simp)

/-! ### spec_l2Zero: function 76 -/
def spec_l2Zero.f (a0 : Int) : Option (List Int) := if 0 ≤ a0 then (if (a0 : Int).toNat ≤ 281474976710656 then (some (List.replicate (a0 : Int).toNat 0)) else (none)) else (none)
set_option maxHeartbeats 8000000 in
set_option maxRecDepth 100000 in
theorem spec_l2Zero.calls (a0 : Int) (r : List Int) (w : World) (h : spec_l2Zero.f a0 = some r) :
    Calls Try.prog 76 #[.int .i64 a0] w fun e w' => ∃ v0_ : Value, e = .returned (v0_) ∧ Kd.R (Kd.int .u8) 5 w' w.heap.size (fun _ => True) v0_ r ∧ Below w.heap.size w w' := by
  have HB := Aside0.mk (Below.refl w.heap.size w)
  have H : (if 0 ≤ a0 then (if (a0 : Int).toNat ≤ 281474976710656 then (some (List.replicate (a0 : Int).toNat 0)) else (none)) else (none)) = some r := h
  clear h
  by_cases c2 : 0 ≤ a0
  · rw [if_pos c2] at H
    have c2b0 := eq_true c2
    have c2b1 : decide (0 ≤ a0) = true := decide_eq_true c2
    clear c2
    by_cases c3 : (a0 : Int).toNat ≤ 281474976710656
    · rw [if_pos c3] at H
      have c3b0 := eq_true c3
      have c3b1 : decide ((a0 : Int).toNat ≤ 281474976710656) = true := decide_eq_true c3
      clear c3
      obtain ⟨y142, hy142⟩ : ∃ y_ : List Int, y_ = (List.replicate (a0 : Int).toNat 0) := ⟨_, rfl⟩
      replace H : (some y142) = some r := by first | (rw [hy142]; with_reducible exact H) | (have H2_ := (Option.bind_some _ _).symm.trans H; rw [hy142]; with_reducible exact H2_) | (have H2_ := (Option.bind_some _ _).symm.trans H; with_reducible exact H2_) | with_reducible exact H | (rw [hy142]; exact H) | exact H
      have Ny142 := Aside0.mk hy142
      clear hy142
      obtain rfl := Option.some.inj H
      go_enter Try.func76, Try.ntmps76
      go_wp2_with (first | ((with_reducible refine gate_dst (N := 4) rfl ?_); refine Kd.R_make (Kd.int .u8) _ 5 rfl (N := 4) rfl 59 _ _ rfl a0 rfl rfl Try.underlying59 (.int .u8 0) 1 info5 rfl (by decide) (by omega) 0 (ok := fun _ => True) (okp := fun _ => True) rfl (fun _ hk => hk) trivial (of_decide_eq_true (by first | (with_reducible assumption) | assumption)) (Nat.le_trans (Nat.mul_le_mul_right _ (of_decide_eq_true (by first | (with_reducible assumption) | assumption) : a0.toNat ≤ 281474976710656)) (by omega)) (Below.refl _ _) (Nat.le_refl _) ?_; intro v143 w4 ho5 hb hg_ hnew_; clear hg_ hnew_; (first | rw [← Ny142.out] at ho5 | (simp only [Int.reduceToNat] at ho5; rw [← Ny142.out] at ho5)); have n0_ := Aside0.mk (Kd.R_lower ho5 (below_size (Rgn.bq HB.out))); have n1_ := Aside0.mk (below_step (Rgn.bq HB.out) hb); clear HB; have HO144 := n0_; have HB := n1_; clear n0_ n1_; clear hb ho5))
      go_ret
      exact ⟨_, by first | rfl | (simp [errW_none, errW_some] <;> rfl) | (simp [*, errW_none, errW_some] <;> rfl), Rgn.rq HO144.out, Rgn.bq HB.out⟩
    · rw [if_neg c3] at H
      exact absurd H (by simp)
  · rw [if_neg c2] at H
    exact absurd H (by simp)

/-! ### spec_l3Pad: function 69 -/
def spec_l3Pad.f (l0 : List Int) : Option (List Int) := (spec_l2Zero.f (wrap64 (64 - (l0.length : Int)))).bind fun t145 => ((spec_l2Join.f l0 t145).bind fun t148 => (some t148))
set_option maxHeartbeats 8000000 in
set_option maxRecDepth 100000 in
theorem spec_l3Pad.calls (A0 : Option Addr) (c0 : Nat) (l0 : List Int) (r : List Int) (w : World) (hr0 : Kd.C (Kd.int .u8) w A0 l0.length l0) (hc0 : l0.length ≤ c0) (h : spec_l3Pad.f l0 = some r) :
    Calls Try.prog 69 #[.slice A0 l0.length c0] w fun e w' => ∃ v0_ : Value, e = .returned (v0_) ∧ Kd.R (Kd.int .u8) 5 w' w.heap.size (fun _ => True) v0_ r ∧ Below w.heap.size w w' := by
  have HR0 := Aside0.mk hr0
  have HC0 := Aside0.mk hc0
  clear hr0 hc0
  have HB := Aside0.mk (Below.refl w.heap.size w)
  have H : ((spec_l2Zero.f (wrap64 (64 - (l0.length : Int)))).bind fun t145 => ((spec_l2Join.f l0 t145).bind fun t148 => (some t148))) = some r := h
  clear h
  replace H := Option.bind_eq_some_iff.mp H
  obtain ⟨t145, A20, H⟩ := H
  replace H : ((spec_l2Join.f l0 t145).bind fun t148 => (some t148)) = some r := H
  have A2 := Aside0.mk A20
  clear A20
  replace H := Option.bind_eq_some_iff.mp H
  obtain ⟨t148, A30, H⟩ := H
  replace H : (some t148) = some r := H
  have A3 := Aside0.mk A30
  clear A30
  obtain rfl := Option.some.inj H
  go_enter Try.func69, Try.ntmps69
  go_wp2_with (first | ((with_reducible refine gate_callee (f := 76) rfl ?_); refine Rgn.gl (some 7) Try.func76 #[.int .i64 (wrap64 (64 - (l0.length : Int)))] ?_; (with_reducible refine (spec_l2Zero.calls (wrap64 (64 - (l0.length : Int))) t145 _ A2.out).mono ?_); rintro e w4 ⟨v146, rfl, ho0, hb⟩; refine ⟨_, rfl, ?_⟩; have n0_ := Aside0.mk (Kd.R_lower ho0 (below_size (Rgn.bq HB.out))); have n1_ := Aside0.mk (below_step (Rgn.bq HB.out) hb); clear HB; have HO147 := n0_; have HB := n1_; clear n0_ n1_; (try clear hb); (try clear hb2); (try clear hk); (try clear hi); (try clear ho0); obtain ⟨Ao5, co5, eo5⟩ := Kd.R_slice HO147.out; subst eo5) | ((with_reducible refine gate_callee (f := 57) rfl ?_); refine Rgn.gl (some 8) Try.func57 #[.slice A0 l0.length c0, .slice Ao5 t145.length co5] ?_; (with_reducible refine (spec_l2Join.calls _ _ l0 _ _ t145 t148 _ ?side1 ?side2 ?side3 ?side4 A3.out).mono ?_); (case side1 => exact Rgn.cq (Kd.C_below HR0.out HB.out)); (case side2 => exact HC0.out); (case side3 => exact Rgn.cq (Kd.R_reads' HO147.out).2.2); (case side4 => exact (Kd.R_reads' HO147.out).2.1); rintro e w6 ⟨v149, rfl, ho0, hb⟩; refine ⟨_, rfl, ?_⟩; have n0_ := Aside0.mk (Kd.R_elder' (Rgn.rq HO147.out) (Kd.R_base ho0) hb); have n1_ := Aside0.mk (Kd.R_lower (Kd.R_new' ho0 (Kd.R_lt (Rgn.rq HO147.out))) (below_size (Rgn.bq HB.out))); have n2_ := Aside0.mk (below_step (Rgn.bq HB.out) hb); clear HO147; clear HB; have HO147 := n0_; have HO150 := n1_; have HB := n2_; clear n0_ n1_ n2_; (try clear hb); (try clear hb2); (try clear hk); (try clear hi); (try clear ho0)))
  go_ret
  exact ⟨_, by first | rfl | (simp [errW_none, errW_some] <;> rfl) | (simp [*, errW_none, errW_some] <;> rfl), by (with_reducible repeat (first | apply Kd.R_alloc | apply Kd.R_drewN | apply Kd.R_drew)); exact Kd.R_mono HO150.out (fun _ hk => trivial), Rgn.bq HB.out⟩

/-! ### spec_PutNumber: function 71 -/
mutual
def spec_PutNumber.j0 : Nat → Int → Int → Bool → Option (List Int)
  | 0, _, _, _ => none
  | k + 1, x0, x1, x16 => if x16 = true then (some (([] : List Int))) else (spec_PutNumber.l0 k x0 x1 (([] : List Int)) 0)
def spec_PutNumber.l0 : Nat → Int → Int → List Int → Int → Option (List Int)
  | 0, _, _, _, _ => none
  | k + 1, x0, x1, x5, x6 => if x6 < x1 then ((some (([(Int.tmod x0 256) % 256] : List Int) : List Int)).bind fun y157 => (if y157.length + x5.length < 140737488355328 then (spec_PutNumber.l0 k (wrap64 (Int.tdiv x0 256)) x1 (y157 ++ x5) (wrap64 (x6 + 1))) else (none))) else (if x0 > 0 then (some (([] : List Int))) else (some x5))
end
def spec_PutNumber.f (k : Nat) (a0 : Int) (a1 : Int) : Option (List Int) := if a1 < 1 then (spec_PutNumber.j0 k a0 a1 true) else (if a1 > 8 then (spec_PutNumber.j0 k a0 a1 true) else (spec_PutNumber.j0 k a0 a1 (decide (a0 < 0))))
theorem spec_PutNumber.mono_l : ∀ k, (∀ y0 y1 y2, LeO (spec_PutNumber.j0 k y0 y1 y2) (spec_PutNumber.j0 (k + 1) y0 y1 y2)) ∧ (∀ y0 y1 y2 y3, LeO (spec_PutNumber.l0 k y0 y1 y2 y3) (spec_PutNumber.l0 (k + 1) y0 y1 y2 y3))
  | 0 => ⟨fun _ _ _ r h => by simp [spec_PutNumber.j0] at h, fun _ _ _ _ r h => by simp [spec_PutNumber.l0] at h⟩
  | k + 1 => by
    obtain ⟨ih0, ih1⟩ := spec_PutNumber.mono_l k
    refine ⟨?_, ?_⟩
    · intro y0 y1 y2
      unfold spec_PutNumber.j0
      repeat' first
      | (with_reducible exact ih0 _ _ _)
      | (with_reducible exact ih1 _ _ _ _)
      | (with_reducible exact LeO.refl _)
      | (with_reducible exact LeO.none _)
      | (with_reducible refine LeO.ite ?_ ?_)
      | (with_reducible refine LeO.bind ?_ (fun _ => ?_))
      | exact ih0 _ _ _
      | exact ih1 _ _ _ _
      | exact LeO.none _
      | refine LeO.ite ?_ ?_
      | refine LeO.bind ?_ (fun _ => ?_)
    · intro y0 y1 y2 y3
      unfold spec_PutNumber.l0
      repeat' first
      | (with_reducible exact ih0 _ _ _)
      | (with_reducible exact ih1 _ _ _ _)
      | (with_reducible exact LeO.refl _)
      | (with_reducible exact LeO.none _)
      | (with_reducible refine LeO.ite ?_ ?_)
      | (with_reducible refine LeO.bind ?_ (fun _ => ?_))
      | exact ih0 _ _ _
      | exact ih1 _ _ _ _
      | exact LeO.none _
      | refine LeO.ite ?_ ?_
      | refine LeO.bind ?_ (fun _ => ?_)
theorem spec_PutNumber.mono : ∀ a0 a1 k, LeO (spec_PutNumber.f k a0 a1) (spec_PutNumber.f (k + 1) a0 a1) := by
  intro a0 a1 k
  obtain ⟨ih0, ih1⟩ := spec_PutNumber.mono_l k
  unfold spec_PutNumber.f
  repeat' first
      | (with_reducible exact ih0 _ _ _)
      | (with_reducible exact ih1 _ _ _ _)
      | (with_reducible exact LeO.refl _)
      | (with_reducible exact LeO.none _)
      | (with_reducible refine LeO.ite ?_ ?_)
      | (with_reducible refine LeO.bind ?_ (fun _ => ?_))
      | exact ih0 _ _ _
      | exact ih1 _ _ _ _
      | exact LeO.none _
      | refine LeO.ite ?_ ?_
      | refine LeO.bind ?_ (fun _ => ?_)
set_option maxHeartbeats 8000000 in
set_option maxRecDepth 100000 in
theorem spec_PutNumber.calls (k : Nat) (a0 : Int) (a1 : Int) (r : List Int) (w : World) (h : spec_PutNumber.f k a0 a1 = some r) :
    Calls Try.prog 71 #[.int .i64 a0, .int .i64 a1] w fun e w' => ∃ v0_ : Value, e = .returned (v0_) ∧ Kd.R (Kd.int .u8) 5 w' w.heap.size (fun _ => True) v0_ r ∧ Below w.heap.size w w' := by
  have HB := Aside0.mk (Below.refl w.heap.size w)
  have H : (if a1 < 1 then (spec_PutNumber.j0 k a0 a1 true) else (if a1 > 8 then (spec_PutNumber.j0 k a0 a1 true) else (spec_PutNumber.j0 k a0 a1 (decide (a0 < 0))))) = some r := h
  clear h
  have HC3 := Aside0.mk H
  clear H
  go_enter Try.func71, Try.ntmps71
  go_upto_region 1 with (fail)
  go_cut [16] (fun v16 wc => ∃ (kq : Nat) (x16_2 : Bool), v16 = .bool x16_2 ∧ Aside0 (spec_PutNumber.j0 kq a0 a1 x16_2 = some r) ∧ Aside0 (kq ≤ k) ∧ Aside0 (Below w.heap.size w wc))
  case first =>
    have H := HC3.out
    clear HC3
    by_cases c4 : a1 < 1
    · rw [if_pos c4] at H
      have c4b0 : decide (a1 < 1) = true := decide_eq_true c4
      clear c4
      (first | rw [c4b0] | (simp only [i64_w, i32_w]; rw [c4b0]) | skip)
      have H' := Aside0.mk H
      clear H
      go_wp2
      go_meet
      case rel => exact ⟨_, (true), (by first | rfl | (simp; done) | (simp [*]; done)), H', ⟨by first | omega | exact Nat.le_refl _⟩, ⟨Rgn.bq HB.out⟩⟩
    · rw [if_neg c4] at H
      have c4b0 : decide (a1 < 1) = false := decide_eq_false c4
      clear c4
      (first | rw [c4b0] | (simp only [i64_w, i32_w]; rw [c4b0]) | skip)
      by_cases c5 : a1 > 8
      · rw [if_pos c5] at H
        have c5b0 : decide (8 < a1) = true := decide_eq_true c5
        clear c5
        have H' := Aside0.mk H
        clear H
        go_wp2
        go_meet
        case rel => exact ⟨_, (true), (by first | rfl | (simp; done) | (simp [*]; done)), H', ⟨by first | omega | exact Nat.le_refl _⟩, ⟨Rgn.bq HB.out⟩⟩
      · rw [if_neg c5] at H
        have c5b0 : decide (8 < a1) = false := decide_eq_false c5
        clear c5
        have H' := Aside0.mk H
        clear H
        go_wp2
        go_meet
        case rel => exact ⟨_, (decide (a0 < 0)), (by first | rfl | (simp; done) | (simp [*]; done)), H', ⟨by first | omega | exact Nat.le_refl _⟩, ⟨Rgn.bq HB.out⟩⟩
  case rest =>
    clear HC3
    try clear p2
    try clear c4
    try clear c4b0
    try clear c5
    try clear c5b0
    obtain ⟨kq, x16_2, rfl, HA, HJ2, HB⟩ := hcut
    cases kq with
    | zero => exact absurd HA.out (by simp [spec_PutNumber.j0])
    | succ kj2 =>
      have H := HA.out
      clear HA
      simp only [spec_PutNumber.j0] at H
      by_cases c6 : x16_2 = true
      · subst c6
        have H1 : (some (([] : List Int))) = some r := by rw [if_pos rfl] at H; exact H
        clear H
        have H := H1
        clear H1
        obtain ⟨y151, hy151⟩ : ∃ y_ : List Int, y_ = (([] : List Int)) := ⟨_, rfl⟩
        replace H : (some y151) = some r := by first | (rw [hy151]; with_reducible exact H) | (have H2_ := (Option.bind_some _ _).symm.trans H; rw [hy151]; with_reducible exact H2_) | (have H2_ := (Option.bind_some _ _).symm.trans H; with_reducible exact H2_) | with_reducible exact H | (rw [hy151]; exact H) | exact H
        have Ny151 := Aside0.mk hy151
        clear hy151
        obtain rfl := Option.some.inj H
        go_wp2_with (first | ((with_reducible refine gate_dst (N := 17) rfl ?_); refine Kd.R_lit (Kd.int .u8) _ 5 ?hg (N := 17) ?hd (xs := ([] : List Int)) (inner := []) (ok := fun _ => True) (okp := fun _ => True) ?hr ?hp (fun _ hk => hk) trivial (Below.refl _ _) (Nat.le_refl _) (by simp) ?_; (case hd => rfl); (case hg => rfl); (case hr => first | (go_simp; done) | (go_simp; rfl)); (case hp => exact (Reps.none _ _)); intro v152 w7 ho8 hb hg_ hnew_; clear hg_ hnew_; (first | rw [← Ny151.out] at ho8 | (simp only [Int.reduceToNat] at ho8; rw [← Ny151.out] at ho8)); have n0_ := Aside0.mk (Kd.R_lower ho8 (below_size (Rgn.bq HB.out))); have n1_ := Aside0.mk (below_step (Rgn.bq HB.out) hb); clear HB; have HO153 := n0_; have HB := n1_; clear n0_ n1_; clear hb ho8))
        go_ret
        exact ⟨_, by first | rfl | (simp [errW_none, errW_some] <;> rfl) | (simp [*, errW_none, errW_some] <;> rfl), Rgn.rq HO153.out, Rgn.bq HB.out⟩
      · replace c6 := Bool.eq_false_iff.mpr c6
        subst c6
        have H1 : (spec_PutNumber.l0 kj2 a0 a1 (([] : List Int)) 0) = some r := by rw [if_neg (show ¬ (false = true) by decide)] at H; exact H
        clear H
        have H := H1
        clear H1
        obtain ⟨y154, hy154⟩ : ∃ y_ : List Int, y_ = (([] : List Int)) := ⟨_, rfl⟩
        replace H : (spec_PutNumber.l0 kj2 a0 a1 y154 0) = some r := by first | (rw [hy154]; with_reducible exact H) | (have H2_ := (Option.bind_some _ _).symm.trans H; rw [hy154]; with_reducible exact H2_) | (have H2_ := (Option.bind_some _ _).symm.trans H; with_reducible exact H2_) | with_reducible exact H | (rw [hy154]; exact H) | exact H
        have Ny154 := Aside0.mk hy154
        clear hy154
        have H' := Aside0.mk H
        clear H
        go_wp2_with (first | ((with_reducible refine gate_dst (N := 18) rfl ?_); refine Kd.R_lit (Kd.int .u8) _ 5 ?hg (N := 18) ?hd (xs := ([] : List Int)) (inner := []) (ok := fun _ => True) (okp := fun _ => True) ?hr ?hp (fun _ hk => hk) trivial (Below.refl _ _) (Nat.le_refl _) (by simp) ?_; (case hd => rfl); (case hg => rfl); (case hr => first | (go_simp; done) | (go_simp; rfl)); (case hp => exact (Reps.none _ _)); intro v155 w9 ho10 hb hg_ hnew_; clear hg_ hnew_; (first | rw [← Ny154.out] at ho10 | (simp only [Int.reduceToNat] at ho10; rw [← Ny154.out] at ho10)); have n0_ := Aside0.mk (Kd.R_lower ho10 (below_size (Rgn.bq HB.out))); have n1_ := Aside0.mk (below_step (Rgn.bq HB.out) hb); clear HB; have HO156 := n0_; have HB := n1_; clear n0_ n1_; clear hb ho10))
        go_loopg [0, 5, 6] kj2 (fun kq v0 v5 v6 w' => ∃ (x0_2 : Int) (x5_2 : List Int) (x6_2 : Int), v0 = .int .i64 x0_2 ∧ v6 = .int .i64 x6_2 ∧ Aside0 (spec_PutNumber.l0 kq x0_2 a1 x5_2 x6_2 = some r) ∧ Aside0 (kq ≤ kj2) ∧ Aside0 (Kd.R (Kd.int .u8) 5 w' w.heap.size (fun _ => True) v5 x5_2) ∧ Aside0 (Below w.heap.size w w'))
        case atStart => exact ⟨(a0), (y154), (0), (by first | rfl | (simp; done) | (simp [*]; done)), (by first | rfl | (simp; done) | (simp [*]; done)), H', ⟨Nat.le_refl _⟩, ⟨Rgn.rq HO156.out⟩, ⟨Rgn.bq HB.out⟩⟩
        case round =>
          clear H'
          try clear p2
          try clear c4
          try clear c4b0
          try clear c5
          try clear c5b0
          try clear c6
          try clear c7
          try clear p2
          obtain ⟨x0_2, x5_2, x6_2, rfl, rfl, HA, HK2, HO_5, HB⟩ := hrel
          cases gk with
          | zero => exact absurd HA.out (by simp [spec_PutNumber.l0])
          | succ k2 =>
            have H := HA.out
            clear HA
            simp only [spec_PutNumber.l0] at H
            by_cases c11 : x6_2 < a1
            · rw [if_pos c11] at H
              have c11b0 : decide (x6_2 < a1) = true := decide_eq_true c11
              clear c11
              obtain ⟨y157, hy157⟩ : ∃ y_ : List Int, y_ = (([(Int.tmod x0_2 256) % 256] : List Int)) := ⟨_, rfl⟩
              replace H : (if y157.length + x5_2.length < 140737488355328 then (spec_PutNumber.l0 k2 (wrap64 (Int.tdiv x0_2 256)) a1 (y157 ++ x5_2) (wrap64 (x6_2 + 1))) else (none)) = some r := by first | (rw [hy157]; with_reducible exact H) | (have H2_ := (Option.bind_some _ _).symm.trans H; rw [hy157]; with_reducible exact H2_) | (have H2_ := (Option.bind_some _ _).symm.trans H; with_reducible exact H2_) | with_reducible exact H | (rw [hy157]; exact H) | exact H
              have Ny157 := Aside0.mk hy157
              clear hy157
              by_cases c12 : y157.length + x5_2.length < 140737488355328
              · rw [if_pos c12] at H
                have LMc12 := Aside0.mk c12
                clear c12
                obtain ⟨y160, hy160⟩ : ∃ y_ : List Int, y_ = (y157 ++ x5_2) := ⟨_, rfl⟩
                replace H : (spec_PutNumber.l0 k2 (wrap64 (Int.tdiv x0_2 256)) a1 y160 (wrap64 (x6_2 + 1))) = some r := by first | (rw [hy160]; with_reducible exact H) | (have H2_ := (Option.bind_some _ _).symm.trans H; rw [hy160]; with_reducible exact H2_) | (have H2_ := (Option.bind_some _ _).symm.trans H; with_reducible exact H2_) | with_reducible exact H | (rw [hy160]; exact H) | exact H
                have Ny160 := Aside0.mk hy160
                clear hy160
                have H' := Aside0.mk H
                clear H
                go_wp2_with (first | ((with_reducible refine gate_dst (N := 27) rfl ?_); refine Kd.R_lit (Kd.int .u8) _ 5 ?hg (N := 27) ?hd (xs := ([(Int.tmod x0_2 256) % 256] : List Int)) (inner := [.int .u8 ((Int.tmod x0_2 256) % 256)]) (ok := fun _ => True) (okp := fun _ => True) ?hr ?hp (fun _ hk => hk) trivial (Below.refl _ _) (Nat.le_refl _) (by simp) ?_; (case hd => rfl); (case hg => rfl); (case hr => first | (go_simp; done) | (go_simp; rfl)); (case hp => exact (Reps.one (show Kd.M (Kd.int .u8) _ _ _ ((Int.tmod x0_2 256) % 256) [.int .u8 ((Int.tmod x0_2 256) % 256)] from rfl) (Reps.none _ _))); intro v158 w13 ho14 hb hg_ hnew_; clear hg_ hnew_; (first | rw [← Ny157.out] at ho14 | (simp only [Int.reduceToNat] at ho14; rw [← Ny157.out] at ho14)); have n0_ := Aside0.mk (Kd.R_elder' (Rgn.rq HO_5.out) (Kd.R_base ho14) hb); have n1_ := Aside0.mk (Kd.R_lower (Kd.R_new' ho14 (Kd.R_lt (Rgn.rq HO_5.out))) (below_size (Rgn.bq HB.out))); have n2_ := Aside0.mk (below_step (Rgn.bq HB.out) hb); clear HO_5; clear HB; have HO_5 := n0_; have HO159 := n1_; have HB := n2_; clear n0_ n1_ n2_; clear hb ho14; obtain ⟨Ao16, co16, eo16⟩ := Kd.R_slice HO_5.out; subst eo16) | ((with_reducible refine gate_builtin (b := .append) (xs := #[.tmp 27, .tmp 28]) rfl ?_); at_builtin; refine Kd.R_append_rows (Kd.int .u8) (w0 := w) w.heap.size rfl (.tmp 27) (.tmp 28) 59 5 (.int .u8 0) 1 rfl Try.underlying59 info5 rfl (by decide) (by omega) v158 y157 x5_2 _ _ _ (fun k_ => some k_ ≠ (.slice Ao16 x5_2.length co16 : Value).ownBlock) (fun _ => False) rfl rfl ?aO ?aR (fun _ _ h => h) (fun _ h => h.elim) ?aF ?aB ?aS ?aL ?_; (case aR => exact Rgn.cq (Kd.R_reads' HO_5.out).2.2); (case aB => exact (Rgn.bq HB.out)); (case aF => exact (fun k_ hk => Kd.fresh' (Kd.R_lt (Rgn.rq HO_5.out)) k_ hk)); (case aO => exact (by (with_reducible repeat (first | apply Kd.R_alloc | apply Kd.R_drewN | apply Kd.R_drew)); exact Kd.R_mono HO159.out (fun _ hk => hk.2))); (case aS => exact (below_size (Rgn.bq HB.out))); (case aL => have := LMc12.out; omega); intro v161 w15 ho hb hg hat; rw [← Ny160.out] at ho; have n0_ := Aside0.mk (Kd.R_after (ok := (fun _ => True)) (Rgn.rq HO_5.out) hg hat); have n1_ := Aside0.mk (hb); have n2_ := Aside0.mk (ho); clear HO_5; clear HB; clear HO159; have HO_5 := n0_; have HB := n1_; have HO162 := n2_; clear n0_ n1_ n2_; clear ho hb hg hat))
                go_roundg k2
                case measure => have := HJ2.out; have := HK2.out; omega
                case rel => exact ⟨(wrap64 (Int.tdiv x0_2 256)), (y160), (wrap64 (x6_2 + 1)), (by first | rfl | (simp; done) | (simp [*]; done)), (by first | rfl | (simp; done) | (simp [*]; done)), H', ⟨by have := HJ2.out; have := HK2.out; omega⟩, ⟨by (with_reducible repeat (first | apply Kd.R_alloc | apply Kd.R_drewN | apply Kd.R_drew)); exact Kd.R_mono HO162.out (fun _ hk => trivial)⟩, ⟨Rgn.bq HB.out⟩⟩
              · rw [if_neg c12] at H
                exact absurd H (by simp)
            · rw [if_neg c11] at H
              have c11b0 : decide (x6_2 < a1) = false := decide_eq_false c11
              clear c11
              by_cases c17 : x0_2 > 0
              · rw [if_pos c17] at H
                have c17b0 : decide (0 < x0_2) = true := decide_eq_true c17
                clear c17
                obtain ⟨y163, hy163⟩ : ∃ y_ : List Int, y_ = (([] : List Int)) := ⟨_, rfl⟩
                replace H : (some y163) = some r := by first | (rw [hy163]; with_reducible exact H) | (have H2_ := (Option.bind_some _ _).symm.trans H; rw [hy163]; with_reducible exact H2_) | (have H2_ := (Option.bind_some _ _).symm.trans H; with_reducible exact H2_) | with_reducible exact H | (rw [hy163]; exact H) | exact H
                have Ny163 := Aside0.mk hy163
                clear hy163
                obtain rfl := Option.some.inj H
                go_wp2_with (first | ((with_reducible refine gate_dst (N := 34) rfl ?_); refine Kd.R_lit (Kd.int .u8) _ 5 ?hg (N := 34) ?hd (xs := ([] : List Int)) (inner := []) (ok := fun _ => True) (okp := fun _ => True) ?hr ?hp (fun _ hk => hk) trivial (Below.refl _ _) (Nat.le_refl _) (by simp) ?_; (case hd => rfl); (case hg => rfl); (case hr => first | (go_simp; done) | (go_simp; rfl)); (case hp => exact (Reps.none _ _)); intro v164 w18 ho19 hb hg_ hnew_; clear hg_ hnew_; (first | rw [← Ny163.out] at ho19 | (simp only [Int.reduceToNat] at ho19; rw [← Ny163.out] at ho19)); have n0_ := Aside0.mk (Kd.R_elder' (Rgn.rq HO_5.out) (Kd.R_base ho19) hb); have n1_ := Aside0.mk (Kd.R_lower (Kd.R_new' ho19 (Kd.R_lt (Rgn.rq HO_5.out))) (below_size (Rgn.bq HB.out))); have n2_ := Aside0.mk (below_step (Rgn.bq HB.out) hb); clear HO_5; clear HB; have HO_5 := n0_; have HO165 := n1_; have HB := n2_; clear n0_ n1_ n2_; clear hb ho19))
                go_ret
                exact ⟨_, by first | rfl | (simp [errW_none, errW_some] <;> rfl) | (simp [*, errW_none, errW_some] <;> rfl), by (with_reducible repeat (first | apply Kd.R_alloc | apply Kd.R_drewN | apply Kd.R_drew)); exact Kd.R_mono HO165.out (fun _ hk => trivial), Rgn.bq HB.out⟩
              · rw [if_neg c17] at H
                have c17b0 : decide (0 < x0_2) = false := decide_eq_false c17
                clear c17
                obtain rfl := Option.some.inj H
                go_wp2
                go_ret
                exact ⟨_, by first | rfl | (simp [errW_none, errW_some] <;> rfl) | (simp [*, errW_none, errW_some] <;> rfl), Rgn.rq HO_5.out, Rgn.bq HB.out⟩

/-! ### spec_l3Magic: function 78 -/
def spec_l3Magic.f  : Option (List Int) := some (([106, 108, 111, 103] : List Int))
set_option maxHeartbeats 8000000 in
set_option maxRecDepth 100000 in
theorem spec_l3Magic.calls  (r : List Int) (w : World) (h : spec_l3Magic.f  = some r) :
    Calls Try.prog 78 #[] w fun e w' => ∃ v0_ : Value, e = .returned (v0_) ∧ Kd.R (Kd.int .u8) 5 w' w.heap.size (fun _ => True) v0_ r ∧ Below w.heap.size w w' := by
  have HB := Aside0.mk (Below.refl w.heap.size w)
  have H : (some (([106, 108, 111, 103] : List Int))) = some r := h
  clear h
  obtain ⟨y166, hy166⟩ : ∃ y_ : List Int, y_ = (([106, 108, 111, 103] : List Int)) := ⟨_, rfl⟩
  replace H : (some y166) = some r := by first | (rw [hy166]; with_reducible exact H) | (have H2_ := (Option.bind_some _ _).symm.trans H; rw [hy166]; with_reducible exact H2_) | (have H2_ := (Option.bind_some _ _).symm.trans H; with_reducible exact H2_) | with_reducible exact H | (rw [hy166]; exact H) | exact H
  have Ny166 := Aside0.mk hy166
  clear hy166
  obtain rfl := Option.some.inj H
  go_enter Try.func78, Try.ntmps78
  go_wp2_with (first | ((with_reducible refine gate_dst (N := 1) rfl ?_); refine Kd.R_lit (Kd.int .u8) _ 5 ?hg (N := 1) ?hd (xs := ([106, 108, 111, 103] : List Int)) (inner := [.int .u8 106, .int .u8 108, .int .u8 111, .int .u8 103]) (ok := fun _ => True) (okp := fun _ => True) ?hr ?hp (fun _ hk => hk) trivial (Below.refl _ _) (Nat.le_refl _) (by simp) ?_; (case hd => rfl); (case hg => rfl); (case hr => first | (go_simp; done) | (go_simp; rfl)); (case hp => exact (Reps.one (show Kd.M (Kd.int .u8) _ _ _ 106 [.int .u8 106] from rfl) (Reps.one (show Kd.M (Kd.int .u8) _ _ _ 108 [.int .u8 108] from rfl) (Reps.one (show Kd.M (Kd.int .u8) _ _ _ 111 [.int .u8 111] from rfl) (Reps.one (show Kd.M (Kd.int .u8) _ _ _ 103 [.int .u8 103] from rfl) (Reps.none _ _)))))); intro v167 w1 ho2 hb hg_ hnew_; clear hg_ hnew_; (first | rw [← Ny166.out] at ho2 | (simp only [Int.reduceToNat] at ho2; rw [← Ny166.out] at ho2)); have n0_ := Aside0.mk (Kd.R_lower ho2 (below_size (Rgn.bq HB.out))); have n1_ := Aside0.mk (below_step (Rgn.bq HB.out) hb); clear HB; have HO168 := n0_; have HB := n1_; clear n0_ n1_; clear hb ho2))
  go_ret
  exact ⟨_, by first | rfl | (simp [errW_none, errW_some] <;> rfl) | (simp [*, errW_none, errW_some] <;> rfl), Rgn.rq HO168.out, Rgn.bq HB.out⟩

end Go.Proofs.Ytkehfdadplpaeaa.PFnExactLogNext
