-- written by a program of this session (wip/src/print2.py)
import Derived.Test.YtdhjhadcadcceaaPFnDiskx0
import Derived.Test.YtdhjhadcadcceaaPFnDiskx1
namespace Go.Proofs.Ytdhjhadcadcceaa.PFnDisk
open Go.RowKit Go.Proofs.YtdhjhadcadcceaaW.PrintWords Go.Proofs.YtdhjhadcadcceaaW.PrintLast Go.Proofs.YtdhjhadcadcceaaW.PrintMore
attribute [local go_sem] max2_int min2_int max_two min_two max_three min_three max_four min_four   -- for this text's walks alone
set_option linter.unusedVariables false
set_option linter.unusedSimpArgs false

/-! ### laws_lwAt: function 44 -/
def laws_lwAt.f (l0 : List Int) (a1 : Int) (a2 : Int) : Option (Int) := if a2 ≤ 1 then (some 0) else (if (l0.length : Int) = 0 then (if a2 = 0 then (none) else (some (Int.tmod (wrap64 (a1 * 7)) a2))) else (if 0 ≤ (Int.tmod a1 (l0.length : Int)) then (if (Int.tmod a1 (l0.length : Int)) < (l0.length : Int) then (if a2 > 200 then (if 0 ≤ (Int.tmod (wrap64 (a1 + 1)) (l0.length : Int)) then (if (Int.tmod (wrap64 (a1 + 1)) (l0.length : Int)) < (l0.length : Int) then (if a2 = 0 then (none) else (some (Int.tmod (wrap64 ((wrap64 ((wrap64 ((wrap64 (rd l0 (Int.tmod a1 (l0.length : Int)))) + (wrap64 (Int.tdiv a1 (l0.length : Int))))) * 37)) + (wrap64 (rd l0 (Int.tmod (wrap64 (a1 + 1)) (l0.length : Int)))))) a2))) else (none)) else (none)) else (if a2 = 0 then (none) else (some (Int.tmod (wrap64 ((wrap64 (rd l0 (Int.tmod a1 (l0.length : Int)))) + (wrap64 (Int.tdiv a1 (l0.length : Int))))) a2)))) else (none)) else (none)))
set_option maxHeartbeats 8000000 in
set_option maxRecDepth 100000 in
theorem laws_lwAt.calls (A0 : Option Addr) (c0 : Nat) (l0 : List Int) (a1 : Int) (a2 : Int) (r : Int) (w : World) (hr0 : Kd.C (Kd.int .u8) w A0 l0.length l0) (hc0 : l0.length ≤ c0) (h : laws_lwAt.f l0 a1 a2 = some r) :
  Calls Try.prog 44 #[.slice A0 l0.length c0, .int .i64 a1, .int .i64 a2] w fun e w' => e = .returned (.int .i64 r) ∧ Drawn0 w w' := by
 have HR0 := Aside0.mk hr0
 have HC0 := Aside0.mk hc0
 clear hr0 hc0
 have H : (if a2 ≤ 1 then (some 0) else (if (l0.length : Int) = 0 then (if a2 = 0 then (none) else (some (Int.tmod (wrap64 (a1 * 7)) a2))) else (if 0 ≤ (Int.tmod a1 (l0.length : Int)) then (if (Int.tmod a1 (l0.length : Int)) < (l0.length : Int) then (if a2 > 200 then (if 0 ≤ (Int.tmod (wrap64 (a1 + 1)) (l0.length : Int)) then (if (Int.tmod (wrap64 (a1 + 1)) (l0.length : Int)) < (l0.length : Int) then (if a2 = 0 then (none) else (some (Int.tmod (wrap64 ((wrap64 ((wrap64 ((wrap64 (rd l0 (Int.tmod a1 (l0.length : Int)))) + (wrap64 (Int.tdiv a1 (l0.length : Int))))) * 37)) + (wrap64 (rd l0 (Int.tmod (wrap64 (a1 + 1)) (l0.length : Int)))))) a2))) else (none)) else (none)) else (if a2 = 0 then (none) else (some (Int.tmod (wrap64 ((wrap64 (rd l0 (Int.tmod a1 (l0.length : Int)))) + (wrap64 (Int.tdiv a1 (l0.length : Int))))) a2)))) else (none)) else (none)))) = some r := h
 clear h
 by_cases c4 : a2 ≤ 1
 ·
  rw [if_pos c4] at H
  have c4b0 : decide (a2 ≤ 1) = true := decide_eq_true c4
  clear c4
  obtain rfl := Option.some.inj H
  go_enter Try.func44, Try.ntmps44
  go_wp2
  repeat (go_quiet (fail); try go_wp2)
  go_ret
  exact ⟨by first | rfl | (simp; done) | (simp [*]; done), by repeat (first | exact Drawn0.refl _ | apply Drawn0.step)⟩
 ·
  rw [if_neg c4] at H
  have c4b0 : decide (a2 ≤ 1) = false := decide_eq_false c4
  clear c4
  by_cases c5 : (l0.length : Int) = 0
  ·
   rw [if_pos c5] at H
   have c5b0 : ((l0.length : Int) == 0) = true := beq_iff_eq.mpr c5
   have c5b1 : ((l0.length : Int) != 0) = false := bne_eq_false_iff_eq.mpr c5
   clear c5
   by_cases c6 : a2 = 0
   ·
    rw [if_pos c6] at H
    exact absurd H (by simp)
   ·
    rw [if_neg c6] at H
    have c6b0 : (a2 == 0) = false := beq_eq_false_iff_ne.mpr c6
    have c6b1 : (a2 != 0) = true := bne_iff_ne.mpr c6
    obtain rfl := Option.some.inj H
    go_enter Try.func44, Try.ntmps44
    go_wp2
    repeat (go_quiet (fail); try go_wp2)
    go_ret
    exact ⟨by first | rfl | (simp; done) | (simp [*]; done), by repeat (first | exact Drawn0.refl _ | apply Drawn0.step)⟩
  ·
   rw [if_neg c5] at H
   have c5b0 : ((l0.length : Int) == 0) = false := beq_eq_false_iff_ne.mpr c5
   have c5b1 : ((l0.length : Int) != 0) = true := bne_iff_ne.mpr c5
   have c5b2 : ¬ (l0 = []) := fun h_ => c5 (by rw [h_]; rfl)
   obtain ⟨ji7, hji7⟩ : ∃ j_ : Int, (Int.tmod a1 (l0.length : Int)) = j_ := ⟨_, rfl⟩
   replace H : (if 0 ≤ (ji7) then (if (ji7) < (l0.length : Int) then (if a2 > 200 then (if 0 ≤ (Int.tmod (wrap64 (a1 + 1)) (l0.length : Int)) then (if (Int.tmod (wrap64 (a1 + 1)) (l0.length : Int)) < (l0.length : Int) then (if a2 = 0 then (none) else (some (Int.tmod (wrap64 ((wrap64 ((wrap64 ((wrap64 (rd l0 (ji7))) + (wrap64 (Int.tdiv a1 (l0.length : Int))))) * 37)) + (wrap64 (rd l0 (Int.tmod (wrap64 (a1 + 1)) (l0.length : Int)))))) a2))) else (none)) else (none)) else (if a2 = 0 then (none) else (some (Int.tmod (wrap64 ((wrap64 (rd l0 (ji7))) + (wrap64 (Int.tdiv a1 (l0.length : Int))))) a2)))) else (none)) else (none)) = some r := by first | (rw [hji7] at H; exact H) | (simp only [hji7] at H ⊢; exact H)
   by_cases c8 : 0 ≤ (ji7)
   ·
    rw [if_pos c8] at H
    have c8b0 : decide (0 ≤ (ji7)) = true := decide_eq_true c8
    clear c8
    by_cases c9 : (ji7) < (l0.length : Int)
    ·
     rw [if_pos c9] at H
     have c9b0 : decide ((ji7) < (l0.length : Int)) = true := decide_eq_true c9
     clear c9
     by_cases c10 : a2 > 200
     ·
      rw [if_pos c10] at H
      have c10b0 : decide (200 < a2) = true := decide_eq_true c10
      clear c10
      obtain ⟨ji11, hji11⟩ : ∃ j_ : Int, (Int.tmod (wrap64 (a1 + 1)) (l0.length : Int)) = j_ := ⟨_, rfl⟩
      replace H : (if 0 ≤ (ji11) then (if (ji11) < (l0.length : Int) then (if a2 = 0 then (none) else (some (Int.tmod (wrap64 ((wrap64 ((wrap64 ((wrap64 (rd l0 (ji7))) + (wrap64 (Int.tdiv a1 (l0.length : Int))))) * 37)) + (wrap64 (rd l0 (ji11))))) a2))) else (none)) else (none)) = some r := by first | (rw [hji11] at H; exact H) | (simp only [hji11] at H ⊢; exact H)
      by_cases c12 : 0 ≤ (ji11)
      ·
       rw [if_pos c12] at H
       have c12b0 : decide (0 ≤ (ji11)) = true := decide_eq_true c12
       clear c12
       by_cases c13 : (ji11) < (l0.length : Int)
       ·
        rw [if_pos c13] at H
        have c13b0 : decide ((ji11) < (l0.length : Int)) = true := decide_eq_true c13
        clear c13
        by_cases c14 : a2 = 0
        ·
         rw [if_pos c14] at H
         exact absurd H (by simp)
        ·
         rw [if_neg c14] at H
         have c14b0 : (a2 == 0) = false := beq_eq_false_iff_ne.mpr c14
         have c14b1 : (a2 != 0) = true := bne_iff_ne.mpr c14
         obtain rfl := Option.some.inj H
         have p340 : 0 ≤ ((ji7) : Int) := of_decide_eq_true (by first | (with_reducible assumption) | assumption)
         have q340 : (ji7) < (l0.length : Int) := of_decide_eq_true (by first | (with_reducible assumption) | assumption)
         obtain ⟨ad340, e340, hx340_0⟩ := Kd.at_int HR0.out (ji7) p340 q340
         cases e340
         replace p340 := eq_true p340
         replace q340 := eq_true q340
         have p341 : 0 ≤ ((ji11) : Int) := of_decide_eq_true (by first | (with_reducible assumption) | assumption)
         have q341 : (ji11) < (l0.length : Int) := of_decide_eq_true (by first | (with_reducible assumption) | assumption)
         obtain ⟨ad341, e341, hx341_0⟩ := Kd.at_int HR0.out (ji11) p341 q341
         obtain rfl : ad340 = ad341 := (by injection e341)
         replace p341 := eq_true p341
         replace q341 := eq_true q341
         go_enter Try.func44, Try.ntmps44
         go_wp2
         repeat (go_quiet (fail); try go_wp2)
         go_ret
         exact ⟨by first | rfl | (simp; done) | (simp only [← hji7, ← hji11] <;> (first | rfl | simp)) | (simp [*]; done), by repeat (first | exact Drawn0.refl _ | apply Drawn0.step)⟩
       ·
        rw [if_neg c13] at H
        exact absurd H (by simp)
      ·
       rw [if_neg c12] at H
       exact absurd H (by simp)
     ·
      rw [if_neg c10] at H
      have c10b0 : decide (200 < a2) = false := decide_eq_false c10
      clear c10
      by_cases c15 : a2 = 0
      ·
       rw [if_pos c15] at H
       exact absurd H (by simp)
      ·
       rw [if_neg c15] at H
       have c15b0 : (a2 == 0) = false := beq_eq_false_iff_ne.mpr c15
       have c15b1 : (a2 != 0) = true := bne_iff_ne.mpr c15
       obtain rfl := Option.some.inj H
       have p340 : 0 ≤ ((ji7) : Int) := of_decide_eq_true (by first | (with_reducible assumption) | assumption)
       have q340 : (ji7) < (l0.length : Int) := of_decide_eq_true (by first | (with_reducible assumption) | assumption)
       obtain ⟨ad340, e340, hx340_0⟩ := Kd.at_int HR0.out (ji7) p340 q340
       cases e340
       replace p340 := eq_true p340
       replace q340 := eq_true q340
       go_enter Try.func44, Try.ntmps44
       go_wp2
       repeat (go_quiet (fail); try go_wp2)
       go_ret
       exact ⟨by first | rfl | (simp; done) | (simp only [← hji7] <;> (first | rfl | simp)) | (simp [*]; done), by repeat (first | exact Drawn0.refl _ | apply Drawn0.step)⟩
    ·
     rw [if_neg c9] at H
     exact absurd H (by simp)
   ·
    rw [if_neg c8] at H
    exact absurd H (by simp)

/-! ### impl_twin: function 79 -/
def impl_twin.l0 : Nat → List (S62) → Int → Int → List Int → List (S62) → Option (List Int × (List (S62)))
 | 0, _, _, _, _, _ => none
 | k + 1, x11, x12, x13, x348000, x348001 => if x13 < x12 then (if 0 ≤ x13 then (if x13 < (x11.length : Int) then ((impl_cp.f ((rd_T62 x11 x13).f1)).bind fun t350 => (if x348001.length < 4398046511104 then (impl_twin.l0 k x11 x12 (wrap64 (x13 + 1)) x348000 (x348001 ++ [(⟨(rd_T62 x11 x13).f0, t350⟩ : S62)])) else (none))) else (none)) else (none)) else (some (x348000, x348001))
def impl_twin.f (k : Nat) (l0_0 : List Int) (l0_1 : List (S62)) : Option (List Int × (List (S62))) := (impl_cp.f l0_0).bind fun t344 => (impl_twin.l0 k l0_1 (l0_1.length : Int) 0 t344 ([] : List (S62)))
def impl_twin.T5 : Bool × List (List Nat × List Nat) := (true, [([], []), ([0], [0]), ([], []), ([2], [2]), ([], []), ([4], [4]), ([5], [5]), ([3, 6], [3, 6]), ([7], [7]), ([1, 8, 6], [1, 8]), ([0, 1, 2, 3, 4, 5, 6, 7, 8, 9], []), ([10, 9, 9, 0, 1, 2, 3, 4, 5, 6, 7, 8, 9], [9, 10])])
def impl_twin.B5 : List Nat := [0, 1, 0, 4, 0, 16, 48, 124, 252, 511, 1023, 2047]
theorem impl_twin.tab5 : rtab .any (opsOf Try.f79 5) = impl_twin.T5 := by kernel_rfl
theorem impl_twin.bits5 : waitsOk impl_twin.T5.2 impl_twin.B5 = true := by kernel_rfl
set_option maxHeartbeats 8000000 in
set_option maxRecDepth 100000 in
theorem impl_twin.calls (k : Nat) (A0_0 : Option Addr) (c0_0 : Nat) (l0_0 : List Int) (A0_1 : Option Addr) (c0_1 : Nat) (l0_1 : List (S62)) (r1 : List Int) (r2 : List (S62)) (w : World) (hr0_0 : Kd.C (Kd.int .u8) w A0_0 l0_0.length l0_0) (hc0_0 : l0_0.length ≤ c0_0) (hr0_1 : Kd.C k62 w A0_1 l0_1.length l0_1) (hc0_1 : l0_1.length ≤ c0_1) (h : impl_twin.f k l0_0 l0_1 = some (r1, r2)) :
  Calls Try.prog 79 #[.agg #[.slice A0_0 l0_0.length c0_0, .slice A0_1 l0_1.length c0_1]] w fun e w' => ∃ v0_ v1_ : Value, e = .returned (.agg #[v0_, v1_]) ∧ Kd.R (Kd.int .u8) 5 w' w.heap.size (fun _ => True) v0_ r1 ∧ Kd.S k62 62 w' w.heap.size (fun k_ => some k_ ≠ (v0_ : Value).ownBlock) v1_ r2 ∧ Below w.heap.size w w' := by
 have hu29 := Try.underlying29
 have hu62 := Try.underlying62
 have HR0_0 := Aside0.mk hr0_0
 have HC0_0 := Aside0.mk hc0_0
 clear hr0_0 hc0_0
 have HR0_1 := Aside0.mk hr0_1
 have HC0_1 := Aside0.mk hc0_1
 clear hr0_1 hc0_1
 have HB := Aside0.mk (Below.refl w.heap.size w)
 have H : ((impl_cp.f l0_0).bind fun t344 => (impl_twin.l0 k l0_1 (l0_1.length : Int) 0 t344 ([] : List (S62)))) = some (r1, r2) := h
 clear h
 replace H := Option.bind_eq_some_iff.mp H
 obtain ⟨t344, A20, H⟩ := H
 replace H : (impl_twin.l0 k l0_1 (l0_1.length : Int) 0 t344 ([] : List (S62))) = some (r1, r2) := H
 have A2 := Aside0.mk A20
 clear A20
 have H' := Aside0.mk H
 clear H
 go_enter Try.func79, Try.ntmps79
 go_wp2_with (first | ((with_reducible refine gate_dst (N := 1) rfl ?_); refine Rgn.bx 1 #[.slice A0_0 l0_0.length c0_0, .slice A0_1 l0_1.length c0_1] 29 ?_; intro gb342 hg w3 hbox hb; have BK342 := Aside0.mk (hbox); have GW342 := Aside0.mk (Rgn.ge hg HB.out); have GE342 := Aside0.mk (Rgn.ge hg HB.out); replace HB := Aside0.mk (below_step (Rgn.bq HB.out) hb); clear hb hbox hg) | ((with_reducible refine gate_dst (N := 2) rfl ?_); refine Rgn.bx 2 #[.slice none 0 0, .slice none 0 0] 29 ?_; intro gb343 hg w4 hbox hb; have BK343 := Aside0.mk (hbox); have GW343 := Aside0.mk (Rgn.ge hg HB.out); have GE343 := Aside0.mk (Rgn.ge hg HB.out); replace HB := Aside0.mk (below_step (Rgn.bq HB.out) hb); have NB342_343 := Aside0.mk (Rgn.nl hg BK342.out); have NB343_342 := Aside0.mk (Rgn.ng hg BK342.out); replace BK342 := Aside0.mk (Rgn.bb BK342.out hb); clear hb hbox hg; have hnb5 := NB342_343.out; have hnc5 := NB343_342.out; obtain ⟨hcz6_0, hcz6_1, hfz6_0, hfz6_1⟩ := Rgn.c2 BK342.out) | ((with_reducible refine gate_callee (f := 77) rfl ?_); refine Rgn.gl (some 8) Try.func77 #[.slice A0_0 l0_0.length c0_0] ?_; (with_reducible refine (impl_cp.calls _ _ l0_0 t344 _ ?side1 ?side2 A2.out).mono ?_); (case side1 => exact Rgn.cq (Kd.C_below HR0_0.out HB.out)); (case side2 => exact HC0_0.out); rintro e w7 ⟨v345, rfl, ho0, hb⟩; refine ⟨_, rfl, ?_⟩; have HO346 := Aside0.mk (Kd.R_lower ho0 (below_size (Rgn.bq HB.out))); replace BK342 := Aside0.mk (Rgn.bb BK342.out hb); replace BK343 := Aside0.mk (Rgn.bb BK343.out hb); replace HB := Aside0.mk (below_step (Rgn.bq HB.out) hb); (try clear hb); (try clear ho0); obtain ⟨Ao8, co8, eo8⟩ := Kd.R_slice HO346.out; subst eo8) | ((with_reducible refine gate_dst (N := 3) rfl ?_); refine Rgn.bx 3 #[.slice none 0 0, .slice none 0 0] 29 ?_; intro gb347 hg w9 hbox hb; replace HO346 := Aside0.mk (Kd.R_below (Rgn.rq HO346.out) hb); have BK347 := Aside0.mk (hbox); have GW347 := Aside0.mk (Rgn.ge hg HB.out); have GE347 := Aside0.mk (Rgn.ge hg HB.out); replace HB := Aside0.mk (below_step (Rgn.bq HB.out) hb); have NB342_347 := Aside0.mk (Rgn.nl hg BK342.out); have NB347_342 := Aside0.mk (Rgn.ng hg BK342.out); replace BK342 := Aside0.mk (Rgn.bb BK342.out hb); have NB343_347 := Aside0.mk (Rgn.nl hg BK343.out); have NB347_343 := Aside0.mk (Rgn.ng hg BK343.out); replace BK343 := Aside0.mk (Rgn.bb BK343.out hb); clear hb hbox hg; have hnb10 := NB347_342.out; have hnc10 := NB342_347.out; have hnb11 := NB347_343.out; have hnc11 := NB343_347.out; obtain ⟨hcz12_0, hcz12_1, hfz12_0, hfz12_1⟩ := Rgn.c2 BK347.out; obtain ⟨hcz13_0, hcz13_1, hfz13_0, hfz13_1⟩ := Rgn.c2 BK342.out))
 go_loopg [13] k (fun kq v13 w' => ∃ (x13_1 : Int) (x348001_1 : List (S62)) (u348001 : Value), v13 = .int .i64 x13_1 ∧ Aside0 (impl_twin.l0 kq l0_1 (l0_1.length : Int) x13_1 t344 x348001_1 = some (r1, r2)) ∧ Aside0 (kq ≤ k) ∧ Aside0 (Kd.R (Kd.int .u8) 5 w' w.heap.size (fun _ => True) (.slice Ao8 t344.length co8) t344) ∧ Aside0 (Kd.S k62 62 w' w.heap.size (fun k_ => some k_ ≠ ((.slice Ao8 t344.length co8) : Value).ownBlock) u348001 x348001_1) ∧ Aside0 (w'.heap[gb342]? = some (.cells #[(.slice A0_0 l0_0.length c0_0), (.slice A0_1 l0_1.length c0_1)] 29 (0, 0))) ∧ Aside0 (w'.heap[gb343]? = some (.cells #[(.slice none 0 0), (.slice none 0 0)] 29 (0, 0))) ∧ Aside0 (w'.heap[gb347]? = some (.cells #[(.slice Ao8 t344.length co8), u348001] 29 (0, 0))) ∧ Aside0 (Below w.heap.size w w'))
 case atStart => exact ⟨(0), (([] : List (S62))), (.slice none 0 0), (by first | rfl | (simp; done) | (simp [*]; done)), H', ⟨Nat.le_refl _⟩, ⟨by (with_reducible repeat (first | apply Kd.R_alloc | apply Kd.R_drewN | apply Kd.R_drew)); exact Kd.R_mono (Kd.R_far (p := ⟨gb347, 1, none⟩) (Kd.R_far (p := ⟨gb347, 0, none⟩) (Kd.R_types HO346.out BK347.out (by decide)) (fun _ hk => hk.2) (.slice Ao8 t344.length co8)) (fun _ hk => hk.2) (.slice none 0 0)) (fun _ hk => trivial)⟩, ⟨by first | exact Kd.S_nil _ _ _ _ _ | exact Kd.N_nil _ _ _ _ _ | exact Kd.V_nil _ _ _ _ _ | exact Kd.Q_nil _ _ _ _ _ | exact Kd.R_nil _ _ _ _ _⟩, ⟨Rgn.kf BK342.out⟩, ⟨Rgn.kf BK343.out⟩, ⟨by (with_reducible repeat (first | refine blk_drewN ?_ _ | refine blk_drew ?_ | refine blk_alloc ?_ _)); refine blk_put (cs := #[.slice Ao8 t344.length co8, .slice none 0 0]) ?_ 1 _ rfl; (with_reducible repeat (first | refine blk_drewN ?_ _ | refine blk_drew ?_ | refine blk_alloc ?_ _)); refine blk_put (cs := #[.slice none 0 0, .slice none 0 0]) ?_ 0 _ rfl; (with_reducible repeat (first | refine blk_drewN ?_ _ | refine blk_drew ?_ | refine blk_alloc ?_ _)); exact BK347.out⟩, ⟨Rgn.bq HB.out⟩⟩
 case round =>
  clear H'
  try clear c1
  try clear p2
  try clear c5
  try clear c7
  try clear c10
  try clear c11
  try clear hcz12_0 hcz12_1
  try clear hcz13_0 hcz13_1
  try clear hcz6_0 hcz6_1
  try clear hfz12_0 hfz12_1
  try clear hfz13_0 hfz13_1
  try clear hfz6_0 hfz6_1
  obtain ⟨x13_1, x348001_1, u348001, rfl, HA, HK1, HO_348000, HO_348001, BK342, BK343, BK347, HB⟩ := hrel
  cases gk with
  | zero => exact absurd HA.out (by simp [impl_twin.l0])
  | succ k1 =>
   have H := HA.out
   clear HA
   simp only [impl_twin.l0] at H
   by_cases c14 : x13_1 < (l0_1.length : Int)
   ·
    rw [if_pos c14] at H
    have c14b0 : decide (x13_1 < (l0_1.length : Int)) = true := decide_eq_true c14
    clear c14
    by_cases c15 : 0 ≤ x13_1
    ·
     rw [if_pos c15] at H
     have c15b0 : decide (0 ≤ x13_1) = true := decide_eq_true c15
     clear c15
     by_cases c16 : x13_1 < (l0_1.length : Int)
     ·
      rw [if_pos c16] at H
      have c16b0 : decide (x13_1 < (l0_1.length : Int)) = true := decide_eq_true c16
      clear c16
      replace H := Option.bind_eq_some_iff.mp H
      obtain ⟨t350, A170, H⟩ := H
      replace H : (if x348001_1.length < 4398046511104 then (impl_twin.l0 k1 l0_1 (l0_1.length : Int) (wrap64 (x13_1 + 1)) t344 (x348001_1 ++ [(⟨(rd_T62 l0_1 x13_1).f0, t350⟩ : S62)])) else (none)) = some (r1, r2) := H
      have A17 := Aside0.mk A170
      clear A170
      by_cases c18 : x348001_1.length < 4398046511104
      ·
       rw [if_pos c18] at H
       have LMc18 := Aside0.mk c18
       clear c18
       obtain ⟨y353, hy353⟩ : ∃ y_ : List (S62), y_ = (x348001_1 ++ [(⟨(rd_T62 l0_1 x13_1).f0, t350⟩ : S62)]) := ⟨_, rfl⟩
       replace H : (impl_twin.l0 k1 l0_1 (l0_1.length : Int) (wrap64 (x13_1 + 1)) t344 y353) = some (r1, r2) := by first | (rw [hy353]; with_reducible exact H) | (have H2_ := (Option.bind_some _ _).symm.trans H; rw [hy353]; with_reducible exact H2_) | (have H2_ := (Option.bind_some _ _).symm.trans H; with_reducible exact H2_) | with_reducible exact H | (rw [hy353]; exact H) | exact H
       have Ny353 := Aside0.mk hy353
       clear hy353
       have H' := Aside0.mk H
       clear H
       have p348 : 0 ≤ (x13_1 : Int) := of_decide_eq_true (by first | (with_reducible assumption) | assumption)
       have q348 : x13_1 < (l0_1.length : Int) := of_decide_eq_true (by first | (with_reducible assumption) | assumption)
       obtain ⟨ad348, A348_1, c348_1, e348, hx348_0, hx348_1, hl348_1, hi348_1⟩ := at_T62 HR0_1.out x13_1 p348 q348
       cases e348
       replace hx348_0 := Rgn.hx HB.out hx348_0
       replace hx348_1 := Rgn.hx HB.out hx348_1
       have HR348_1 := Aside0.mk hi348_1
       have HC348_1 := Aside0.mk hl348_1
       clear hi348_1 hl348_1
       replace p348 := eq_true p348
       replace q348 := eq_true q348
       try go_wp2_with (first | ((with_reducible refine gate_dst (N := 5) rfl ?_); refine Rgn.bx 5 #[.int .i64 0, .slice none 0 0] 62 ?_; intro gb349 hg w19 hbox hb; replace HO_348000 := Aside0.mk (Kd.R_below (Rgn.rq HO_348000.out) hb); replace HO_348001 := Aside0.mk (Kd.S_below (Kd.S_elderB (Rgn.sq HO_348001.out) gb349 (Nat.le_of_eq hg.symm)) hb); have BK349 := Aside0.mk (hbox); have GW349 := Aside0.mk (Rgn.ge hg HB.out); have GE349 := Aside0.mk (Rgn.ge hg HB.out); replace HB := Aside0.mk (below_step (Rgn.bq HB.out) hb); have NB342_349 := Aside0.mk (Rgn.nl hg BK342.out); have NB349_342 := Aside0.mk (Rgn.ng hg BK342.out); replace BK342 := Aside0.mk (Rgn.bb BK342.out hb); have NB343_349 := Aside0.mk (Rgn.nl hg BK343.out); have NB349_343 := Aside0.mk (Rgn.ng hg BK343.out); replace BK343 := Aside0.mk (Rgn.bb BK343.out hb); have NB347_349 := Aside0.mk (Rgn.nl hg BK347.out); have NB349_347 := Aside0.mk (Rgn.ng hg BK347.out); replace BK347 := Aside0.mk (Rgn.bb BK347.out hb); clear hb hbox hg; have hnb20 := NB349_342.out; have hnc20 := NB342_349.out; have hnb21 := NB349_343.out; have hnc21 := NB343_349.out; have hnb22 := NB349_347.out; have hnc22 := NB347_349.out; obtain ⟨hcz23_0, hcz23_1, hfz23_0, hfz23_1⟩ := Rgn.c2 BK349.out))
       have n0_ : Aside0 (Kd.R (Kd.int .u8) 5 ((w19.setCell ⟨gb349, 0, none⟩ (.int .i64 ((rd_T62 l0_1 x13_1).f0))).setCell ⟨gb349, 1, none⟩ (.slice A348_1 ((rd_T62 l0_1 x13_1).f1).length c348_1)) w.heap.size (fun _ => True) (.slice Ao8 t344.length co8) t344) := ⟨by (with_reducible repeat (first | apply Kd.R_alloc | apply Kd.R_drewN | apply Kd.R_drew)); exact Kd.R_mono (Kd.R_far (p := ⟨gb349, 1, none⟩) (Kd.R_far (p := ⟨gb349, 0, none⟩) (Kd.R_types HO_348000.out BK349.out (by decide)) (fun _ hk => hk.2) (.int .i64 ((rd_T62 l0_1 x13_1).f0))) (fun _ hk => hk.2) (.slice A348_1 ((rd_T62 l0_1 x13_1).f1).length c348_1)) (fun _ hk => trivial)⟩
       have n1_ : Aside0 (Kd.S k62 62 ((w19.setCell ⟨gb349, 0, none⟩ (.int .i64 ((rd_T62 l0_1 x13_1).f0))).setCell ⟨gb349, 1, none⟩ (.slice A348_1 ((rd_T62 l0_1 x13_1).f1).length c348_1)) w.heap.size (fun k_ => some k_ ≠ (.slice Ao8 t344.length co8 : Value).ownBlock ∧ k_ ≠ gb349) u348001 x348001_1) := ⟨by (with_reducible repeat (first | apply Kd.S_alloc | apply Kd.S_drewN | apply Kd.S_drew)); exact Kd.S_mono (Kd.S_far (p := ⟨gb349, 1, none⟩) (Kd.S_far (p := ⟨gb349, 0, none⟩) (Kd.S_mono HO_348001.out (fun k_ hk => (⟨hk, hk.2⟩ : _ ∧ k_ ≠ gb349))) (fun _ hk => hk.2) (.int .i64 ((rd_T62 l0_1 x13_1).f0))) (fun _ hk => hk.2) (.slice A348_1 ((rd_T62 l0_1 x13_1).f1).length c348_1)) (fun _ hk => ⟨hk.1.1, hk.1.2⟩)⟩
       have n2_ : Aside0 (((w19.setCell ⟨gb349, 0, none⟩ (.int .i64 ((rd_T62 l0_1 x13_1).f0))).setCell ⟨gb349, 1, none⟩ (.slice A348_1 ((rd_T62 l0_1 x13_1).f1).length c348_1)).heap[gb342]? = some (.cells #[.slice A0_0 l0_0.length c0_0, .slice (some ad348) l0_1.length c0_1] 29 (0, 0))) := ⟨Rgn.kf BK342.out⟩
       have n3_ : Aside0 (((w19.setCell ⟨gb349, 0, none⟩ (.int .i64 ((rd_T62 l0_1 x13_1).f0))).setCell ⟨gb349, 1, none⟩ (.slice A348_1 ((rd_T62 l0_1 x13_1).f1).length c348_1)).heap[gb343]? = some (.cells #[.slice none 0 0, .slice none 0 0] 29 (0, 0))) := ⟨Rgn.kf BK343.out⟩
       have n4_ : Aside0 (((w19.setCell ⟨gb349, 0, none⟩ (.int .i64 ((rd_T62 l0_1 x13_1).f0))).setCell ⟨gb349, 1, none⟩ (.slice A348_1 ((rd_T62 l0_1 x13_1).f1).length c348_1)).heap[gb347]? = some (.cells #[.slice Ao8 t344.length co8, u348001] 29 (0, 0))) := ⟨Rgn.kf BK347.out⟩
       have n5_ : Aside0 (((w19.setCell ⟨gb349, 0, none⟩ (.int .i64 ((rd_T62 l0_1 x13_1).f0))).setCell ⟨gb349, 1, none⟩ (.slice A348_1 ((rd_T62 l0_1 x13_1).f1).length c348_1)).heap[gb349]? = some (.cells #[.int .i64 ((rd_T62 l0_1 x13_1).f0), .slice A348_1 ((rd_T62 l0_1 x13_1).f1).length c348_1] 62 (0, 0))) := ⟨by (with_reducible repeat (first | refine blk_drewN ?_ _ | refine blk_drew ?_ | refine blk_alloc ?_ _)); refine blk_put (cs := #[.int .i64 ((rd_T62 l0_1 x13_1).f0), .slice none 0 0]) ?_ 1 _ rfl; (with_reducible repeat (first | refine blk_drewN ?_ _ | refine blk_drew ?_ | refine blk_alloc ?_ _)); refine blk_put (cs := #[.int .i64 0, .slice none 0 0]) ?_ 0 _ rfl; (with_reducible repeat (first | refine blk_drewN ?_ _ | refine blk_drew ?_ | refine blk_alloc ?_ _)); exact BK349.out⟩
       have n6_ : Aside0 (Below w.heap.size w ((w19.setCell ⟨gb349, 0, none⟩ (.int .i64 ((rd_T62 l0_1 x13_1).f0))).setCell ⟨gb349, 1, none⟩ (.slice A348_1 ((rd_T62 l0_1 x13_1).f1).length c348_1))) := ⟨Rgn.bq HB.out⟩
       (try clear HO_348000)
       (try clear HO_348001)
       (try clear BK342)
       (try clear BK343)
       (try clear BK347)
       (try clear BK349)
       (try clear HB)
       generalize ((w19.setCell ⟨gb349, 0, none⟩ (.int .i64 ((rd_T62 l0_1 x13_1).f0))).setCell ⟨gb349, 1, none⟩ (.slice A348_1 ((rd_T62 l0_1 x13_1).f1).length c348_1)) = w24 at n0_ n1_ n2_ n3_ n4_ n5_ n6_ ⊢
       have HO_348000 := n0_
       have HO_348001 := n1_
       have BK342 := n2_
       have BK343 := n3_
       have BK347 := n4_
       have BK349 := n5_
       have HB := n6_
       clear n0_ n1_ n2_ n3_ n4_ n5_ n6_
       replace HO_348000 := Aside0.mk (Kd.R_drew HO_348000.out)
       replace HO_348001 := Aside0.mk (Kd.S_drew HO_348001.out)
       replace BK342 := Aside0.mk (blk_drew BK342.out)
       replace BK343 := Aside0.mk (blk_drew BK343.out)
       replace BK347 := Aside0.mk (blk_drew BK347.out)
       replace BK349 := Aside0.mk (blk_drew BK349.out)
       replace HB := Aside0.mk (below_drew1 HB.out)
       refine start_ (n := 12) (S := fun w' => w'.cell? ⟨gb347, 0, none⟩ = some (.slice Ao8 t344.length co8) ∧ w'.cell? ⟨gb347, 1, none⟩ = some (u348001) ∧ w'.cell? ⟨gb349, 0, none⟩ = some (.int .i64 ((rd_T62 l0_1 x13_1).f0)) ∧ w'.cell? ⟨gb349, 1, none⟩ = some (.slice A348_1 ((rd_T62 l0_1 x13_1).f1).length c348_1)) (ds := [11]) #[false, false, false, false, false, false, false, false, false, false, false, false] (by kernel_rfl) rfl rfl ⟨(blk_cell BK347.out 0).trans rfl, (blk_cell BK347.out 1).trans rfl, (blk_cell BK349.out 0).trans rfl, (blk_cell BK349.out 1).trans rfl⟩ (fun hHeld => ?_); refine with_tabW impl_twin.tab5 impl_twin.bits5 (fun HT_ HW_ => ?_)
       generalize w24.drew = w25 at HO_348000 HO_348001 BK342 BK343 BK347 BK349 HB hHeld ⊢
       refine Rgn.pu HT_.out 0 17 ?_
       refine Rgn.pu HT_.out 2 19 ?_
       refine Rgn.pu HT_.out 4 21 ?_
       refine Rgn.tk HT_.out HW_.out 1 18 hHeld ?_
       refine Rgn.tk HT_.out HW_.out 3 20 hHeld ?_
       refine Rgn.tk HT_.out HW_.out 5 22 hHeld ?_
       refine one_ (i := 6) (N := some 23) #[true, true, true, true, true, true, true, false, false, false, false, false] rfl rfl (one_of HT_.out (by kernel_rfl)) (by decide) (fun K hK => ?_)
       refine Rgn.gs Try.func77 #[.slice A348_1 ((rd_T62 l0_1 x13_1).f1).length c348_1] ?_
       with_reducible refine (impl_cp.calls _ _ ((rd_T62 l0_1 x13_1).f1) t350 _ ?side1 ?side2 A17.out).mono ?_
       (case side1 => exact Rgn.cq (Kd.C_below HR348_1.out HB.out))
       (case side2 => exact HC348_1.out)
       rintro e w26 ⟨v351, rfl, ho0, hb⟩
       refine ⟨_, rfl, ?_⟩
       replace HO_348001 := Aside0.mk (Kd.S_elder' (Rgn.sq HO_348001.out) (Kd.R_base ho0) hb)
       have HO352 := Aside0.mk (Kd.R_lower (Kd.R_new' ho0 (Kd.R_lt (Rgn.rq HO_348000.out))) (below_size (Rgn.bq HB.out)))
       replace HO_348000 := Aside0.mk (Kd.R_elder' (Rgn.rq HO_348000.out) (Kd.R_base ho0) hb)
       replace BK342 := Aside0.mk (Rgn.bb BK342.out hb)
       replace BK343 := Aside0.mk (Rgn.bb BK343.out hb)
       replace BK347 := Aside0.mk (Rgn.bb BK347.out hb)
       replace BK349 := Aside0.mk (Rgn.bb BK349.out hb)
       replace HB := Aside0.mk (below_step (Rgn.bq HB.out) hb)
       (try clear hb)
       skip
       skip
       skip
       (try clear ho0)
       obtain ⟨Ao27, co27, eo27⟩ := Kd.R_slice HO352.out
       (first | subst eo27 | (injection eo27 with f1_ f2_ f3_; have f4_ := f1_.symm; have f5_ := f3_.symm; clear f1_ f2_ f3_; subst f4_; subst f5_))
       refine hK.out _ _ ⟨(blk_cell BK347.out 0).trans rfl, (blk_cell BK347.out 1).trans rfl, (blk_cell BK349.out 0).trans rfl, (blk_cell BK349.out 1).trans rfl⟩ (fun hHeld => ?_)
       clear hK K
       refine norm_ (a' := ?_) ?_ ?_
       rotate_left
       ·
        show Act.put _ (some 23) _ = _
        simp only [Act.put, List.setIfInBounds_toArray, List.set_cons_zero, List.set_cons_succ, i64_w, i32_w]
        rfl
       refine Rgn.pu HT_.out 7 24 ?_
       refine one_ (i := 8) (N := some 25) #[true, true, true, true, true, true, true, true, true, false, false, false] rfl rfl (one_of HT_.out (by kernel_rfl)) (by decide) (fun K hK => ?_)
       refine value_ (w1 := ?_) (v := ?_) (by rfl) rfl ?_ ?_
       rotate_left 2
       ·
        go_simp
        constructor
        ·
         rfl
        ·
         rfl
       refine hK.out _ _ ⟨(blk_cell (blk_alloc BK347.out _) 0).trans rfl, (blk_cell (blk_alloc BK347.out _) 1).trans rfl, (blk_cell (blk_alloc BK349.out _) 0).trans rfl, (blk_cell (blk_alloc BK349.out _) 1).trans rfl⟩ (fun hHeld => ?_)
       clear hK K
       refine norm_ (a' := ?_) ?_ ?_
       rotate_left
       ·
        show Act.put _ (some 25) _ = _
        simp only [Act.put, List.setIfInBounds_toArray, List.set_cons_zero, List.set_cons_succ, i64_w, i32_w]
        rfl
       refine one_ (i := 9) (N := some 26) #[true, true, true, true, true, true, true, true, true, true, false, false] rfl rfl (one_of HT_.out (by kernel_rfl)) (by decide) (fun K hK => ?_)
       refine Kd.S_append_step k62 (w0 := w) w.heap.size (by rfl) (.tmp 18) (.tmp 25) 27 62 (.agg #[(.int .i64 0), (.slice none 0 0)]) 32 rfl Try.underlying27 info62 rfl (by decide) (by omega) u348001 x348001_1 (⟨(rd_T62 l0_1 x13_1).f0, t350⟩ : S62) [.int .i64 ((rd_T62 l0_1 x13_1).f0), .slice Ao27 t350.length co27] (fun k_ => some k_ ≠ (.slice Ao8 t344.length co8 : Value).ownBlock ∧ k_ ≠ gb349) (fun k_ => some k_ = (.slice Ao27 t350.length co27 : Value).ownBlock) rfl rfl ?aP (fun k_ hk_ => ((Kd.R_mono (ok' := fun k_ => ((fun k_ => some k_ ≠ (.slice Ao8 t344.length co8 : Value).ownBlock ∧ k_ ≠ gb349)) k_ ∧ some k_ ≠ (u348001 : Value).ownBlock) (Kd.R_types (Kd.R_apart' (HO352.out) (Kd.S_typed HO_348001.out) (by decide)) BK349.out (by decide)) (fun k_ hk => ⟨⟨hk.1.1.2, hk.2⟩, hk.1.2⟩))).1 k_ hk_.symm) ?aF ?aO ?aB ?aS ?aL ?_
       (case aP => exact k62_mkM _ _ _ (⟨(rd_T62 l0_1 x13_1).f0, t350⟩ : S62) (Kd.R_mono (Kd.R_tight rfl (Kd.R_mono (ok' := fun k_ => ((fun k_ => some k_ ≠ (.slice Ao8 t344.length co8 : Value).ownBlock ∧ k_ ≠ gb349)) k_ ∧ some k_ ≠ (u348001 : Value).ownBlock) (Kd.R_types (Kd.R_apart' (HO352.out) (Kd.S_typed HO_348001.out) (by decide)) BK349.out (by decide)) (fun k_ hk => ⟨⟨hk.1.1.2, hk.2⟩, hk.1.2⟩))) (fun _ h_ => h_)))
       (case aB => exact (Rgn.bq HB.out))
       (case aF => exact (fun k_ hk => ⟨Kd.fresh' (Kd.R_lt (Rgn.rq HO_348000.out)) k_ hk, Kd.freshB (g := gb349) (o := .cells #[.int .i64 ((rd_T62 l0_1 x13_1).f0), .slice A348_1 ((rd_T62 l0_1 x13_1).f1).length c348_1] 62 (0, 0)) (Rgn.kb BK349.out) k_ hk⟩))
       (case aO => exact (Rgn.sq (Kd.S_mono HO_348001.out (fun k_ hk => ⟨⟨hk.1.1, hk.1.2⟩, fun e_ => hk.2 e_⟩))))
       (case aS => exact (below_size (Rgn.bq HB.out)))
       (case aL => have := LMc18.out; omega)
       intro v354 w28 ho hb hg hat
       rw [← Ny353.out] at ho
       replace HO_348000 := Aside0.mk (Kd.R_over' (Rgn.rq HO_348000.out) (Kd.S_typed (Rgn.sq HO_348001.out)) (by decide) hg)
       replace BK342 := Aside0.mk (Rgn.bg BK342.out hg (Kd.S_ne HO_348001.out BK342.out (by decide)))
       replace BK343 := Aside0.mk (Rgn.bg BK343.out hg (Kd.S_ne HO_348001.out BK343.out (by decide)))
       replace BK347 := Aside0.mk (Rgn.bg BK347.out hg (Kd.S_ne HO_348001.out BK347.out (by decide)))
       replace BK349 := Aside0.mk (Rgn.bg BK349.out hg (Kd.S_away HO_348001.out (fun _ hk => hk.1.2)))
       replace HB := Aside0.mk (hb)
       have HO355 := Aside0.mk (ho)
       clear HO352 HO_348001
       clear ho hb hg hat
       obtain ⟨Ao29, co29, eo29⟩ := Kd.S_slice HO355.out
       (first | subst eo29 | (injection eo29 with f1_ f2_ f3_; have f4_ := f1_.symm; have f5_ := f3_.symm; clear f1_ f2_ f3_; subst f4_; subst f5_))
       refine hK.out _ _ ⟨(blk_cell BK347.out 0).trans rfl, (blk_cell BK347.out 1).trans rfl, (blk_cell BK349.out 0).trans rfl, (blk_cell BK349.out 1).trans rfl⟩ (fun hHeld => ?_)
       clear hK K
       refine norm_ (a' := ?_) ?_ ?_
       rotate_left
       ·
        show Act.put _ (some 26) _ = _
        simp only [Act.put, List.setIfInBounds_toArray, List.set_cons_zero, List.set_cons_succ, i64_w, i32_w]
        rfl
       refine Rgn.pu HT_.out 10 27 ?_
       refine last_ (i := 11) (N := none) #[true, true, true, true, true, true, true, true, true, true, true, true] rfl rfl (one_of HT_.out (by kernel_rfl)) (by decide) (fun K hK => ?_)
       have hs30 : w28.cell? ⟨gb347, 1, none⟩ = some (u348001) := (blk_cell BK347.out 1).trans rfl
       have hfs30 := blk_frozen BK347.out 1
       have hns30_0 := NB342_347.out
       have hns30_1 := NB343_347.out
       have hns30_3 := NB349_347.out
       have hms30_0 := NB347_342.out
       have hms30_1 := NB347_343.out
       have hms30_3 := NB347_349.out
       refine skip_ (w1 := ?_) (by rfl) rfl ?_ ?_
       rotate_left
       ·
        go_simp
        rfl
       refine hK.out _ _ ?_
       clear hK K
       refine done_ (done_of HT_.out (by kernel_rfl)) ?_
       try go_wp2
       go_roundg k1
       case measure => have := HK1.out; omega
       case rel => exact ⟨(wrap64 (x13_1 + 1)), (y353), (.slice Ao29 y353.length co29), (by first | rfl | (simp; done) | (simp [*]; done)), H', ⟨by have := HK1.out; omega⟩, ⟨by (with_reducible repeat (first | apply Kd.R_alloc | apply Kd.R_drewN | apply Kd.R_drew)); exact Kd.R_mono (Kd.R_far (p := ⟨gb347, 1, none⟩) (Kd.R_types HO_348000.out BK347.out (by decide)) (fun _ hk => hk.2) (.slice Ao29 y353.length co29)) (fun _ hk => trivial)⟩, ⟨by (with_reducible repeat (first | apply Kd.S_alloc | apply Kd.S_drewN | apply Kd.S_drew)); exact Kd.S_mono (Kd.S_far (p := ⟨gb347, 1, none⟩) (Kd.S_types HO355.out BK347.out (by decide)) (fun _ hk => hk.2) (.slice Ao29 y353.length co29)) (fun _ hk => hk.1.1)⟩, ⟨Rgn.kf BK342.out⟩, ⟨Rgn.kf BK343.out⟩, ⟨by (with_reducible repeat (first | refine blk_drewN ?_ _ | refine blk_drew ?_ | refine blk_alloc ?_ _)); refine blk_put (cs := #[.slice Ao8 t344.length co8, u348001]) ?_ 1 _ rfl; (with_reducible repeat (first | refine blk_drewN ?_ _ | refine blk_drew ?_ | refine blk_alloc ?_ _)); exact BK347.out⟩, ⟨Rgn.bq HB.out⟩⟩
      ·
       rw [if_neg c18] at H
       exact absurd H (by simp)
     ·
      rw [if_neg c16] at H
      exact absurd H (by simp)
    ·
     rw [if_neg c15] at H
     exact absurd H (by simp)
   ·
    rw [if_neg c14] at H
    have c14b0 : decide (x13_1 < (l0_1.length : Int)) = false := decide_eq_false c14
    clear c14
    simp only [Option.some.injEq, Prod.mk.injEq] at H
    obtain ⟨rfl, rfl⟩ := H
    have hnb31 := NB347_342.out
    have hnc31 := NB342_347.out
    have hnb32 := NB347_343.out
    have hnc32 := NB343_347.out
    have hcz33_0 := Rgn.cz0 BK347.out
    have hcz33_1 := Rgn.cz1 BK347.out
    have hfz33_0 := blk_frozen BK347.out 0
    have hfz33_1 := blk_frozen BK347.out 1
    have hnb34 := NB343_342.out
    have hnc34 := NB342_343.out
    have hcz35_0 := Rgn.cz0 BK343.out
    have hcz35_1 := Rgn.cz1 BK343.out
    have hfz35_0 := blk_frozen BK343.out 0
    have hfz35_1 := blk_frozen BK343.out 1
    obtain ⟨Ao36, co36, eo36⟩ := Kd.S_slice HO_348001.out
    subst eo36
    go_wp2
    refine bodyPost_ret (results_cell_row rfl _ _ gb343 29 #[.slice Ao8 t344.length co8, .slice Ao36 x348001_1.length co36] (0, 0) _ rfl (by (with_reducible repeat (first | refine blk_drewN ?_ _ | refine blk_drew ?_ | refine blk_alloc ?_ _)); refine blk_put (cs := #[.slice Ao8 t344.length co8, .slice none 0 0]) ?_ 1 _ rfl; (with_reducible repeat (first | refine blk_drewN ?_ _ | refine blk_drew ?_ | refine blk_alloc ?_ _)); refine blk_put (cs := #[.slice none 0 0, .slice none 0 0]) ?_ 0 _ rfl; (with_reducible repeat (first | refine blk_drewN ?_ _ | refine blk_drew ?_ | refine blk_alloc ?_ _)); exact BK343.out) Try.underlying29 rfl (by kernel_rfl)) rfl ?_
    exact ⟨_, _, by first | rfl | (simp [errW_none, errW_some] <;> rfl) | (simp [*, errW_none, errW_some] <;> rfl), by (with_reducible repeat (first | apply Kd.R_alloc | apply Kd.R_drewN | apply Kd.R_drew)); exact Kd.R_mono (Kd.R_far (p := ⟨gb343, 1, none⟩) (Kd.R_far (p := ⟨gb343, 0, none⟩) (Kd.R_types HO_348000.out BK343.out (by decide)) (fun _ hk => hk.2) (.slice Ao8 t344.length co8)) (fun _ hk => hk.2) (.slice Ao36 x348001_1.length co36)) (fun _ hk => trivial), by (with_reducible repeat (first | apply Kd.S_alloc | apply Kd.S_drewN | apply Kd.S_drew)); exact Kd.S_mono (Kd.S_far (p := ⟨gb343, 1, none⟩) (Kd.S_far (p := ⟨gb343, 0, none⟩) (Kd.S_types HO_348001.out BK343.out (by decide)) (fun _ hk => hk.2) (.slice Ao8 t344.length co8)) (fun _ hk => hk.2) (.slice Ao36 x348001_1.length co36)) (fun _ hk => hk.1), Rgn.bq HB.out⟩

end Go.Proofs.Ytdhjhadcadcceaa.PFnDisk
