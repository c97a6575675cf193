-- written by a program of this session (wip/src/print2.py)
import Derived.Test.YtdhjhadcadcceaaPFnDiskx0
import Derived.Test.YtdhjhadcadcceaaPFnDiskx6
namespace Go.Proofs.Ytdhjhadcadcceaa.PFnDisk
open Go.RowKit Go.Proofs.YtdhjhadcadcceaaW.PrintWords Go.Proofs.YtdhjhadcadcceaaW.PrintLast Go.Proofs.YtdhjhadcadcceaaW.PrintMore
attribute [local go_sem] max2_int min2_int max_two min_two max_three min_three max_four min_four   -- for this text's walks alone
set_option linter.unusedVariables false
set_option linter.unusedSimpArgs false

/-! ### laws_lwSameBytes: function 50 -/
def laws_lwSameBytes.f (l0 : List Int) (l1 : List Int) : Option (Bool) := some ((strOfNums l0).toList == (strOfNums l1).toList)
set_option maxHeartbeats 8000000 in
set_option maxRecDepth 100000 in
theorem laws_lwSameBytes.calls (A0 : Option Addr) (c0 : Nat) (l0 : List Int) (A1 : Option Addr) (c1 : Nat) (l1 : List Int) (r : Bool) (w : World) (hr0 : Kd.C (Kd.int .u8) w A0 l0.length l0) (hc0 : l0.length ≤ c0) (hr1 : Kd.C (Kd.int .u8) w A1 l1.length l1) (hc1 : l1.length ≤ c1) (h : laws_lwSameBytes.f l0 l1 = some r) :
  Calls Try.prog 50 #[.slice A0 l0.length c0, .slice A1 l1.length c1] w fun e w' => e = .returned (.bool r) ∧ Drawn0 w w' := by
 have HR0 := Aside0.mk hr0
 have HC0 := Aside0.mk hc0
 clear hr0 hc0
 have HR1 := Aside0.mk hr1
 have HC1 := Aside0.mk hc1
 clear hr1 hc1
 have H : (some ((strOfNums l0).toList == (strOfNums l1).toList)) = some r := h
 clear h
 obtain rfl := Option.some.inj H
 have hcv3 := Kd.C_string (P := Try.prog) (A := A0) (c := c0) Try.underlying22 Try.underlying5 Try.underlying9 HR0.out
 have hcv4 := Kd.C_string (P := Try.prog) (A := A1) (c := c1) Try.underlying22 Try.underlying5 Try.underlying9 HR1.out
 go_enter Try.func50, Try.ntmps50
 go_wp2
 go_ret
 exact ⟨by first | rfl | (simp; done) | (simp [*]; done), by repeat (first | exact Drawn0.refl _ | apply Drawn0.step)⟩

/-! ### laws_lwSameDisk: function 48 -/
mutual
def laws_lwSameDisk.j0 : Nat → Bool → List Int → List (S62) → List Int → List (S62) → Option (Bool)
 | 0, _, _, _, _, _ => none
 | k + 1, x20, x469000, x469001, x470000, x470001 => if x20 = true then (some false) else (laws_lwSameDisk.l0 k 0 x469000 x469001 x470000 x470001)
def laws_lwSameDisk.l0 : Nat → Int → List Int → List (S62) → List Int → List (S62) → Option (Bool)
 | 0, _, _, _, _, _ => none
 | k + 1, x5, x469000, x469001, x470000, x470001 => if x5 < (x469001.length : Int) then (if 0 ≤ x5 then (if x5 < (x470001.length : Int) then (if ((rd_T62 x469001 x5).f0) = ((rd_T62 x470001 x5).f0) then ((laws_lwSameBytes.f ((rd_T62 x469001 x5).f1) ((rd_T62 x470001 x5).f1)).bind fun t475 => (if t475 = true then (laws_lwSameDisk.l0 k (wrap64 (x5 + 1)) x469000 x469001 x470000 x470001) else (some false))) else (some false)) else (none)) else (none)) else (some true)
end
def laws_lwSameDisk.f (k : Nat) (l0_0 : List Int) (l0_1 : List (S62)) (l1_0 : List Int) (l1_1 : List (S62)) : Option (Bool) := if (l0_1.length : Int) = (l1_1.length : Int) then ((laws_lwSameBytes.f l0_0 l1_0).bind fun t470 => (laws_lwSameDisk.j0 k (!t470) l0_0 l0_1 l1_0 l1_1)) else (laws_lwSameDisk.j0 k true l0_0 l0_1 l1_0 l1_1)
set_option maxHeartbeats 8000000 in
set_option maxRecDepth 100000 in
theorem laws_lwSameDisk.calls (k : Nat) (A0_0 : Option Addr) (c0_0 : Nat) (l0_0 : List Int) (A0_1 : Option Addr) (c0_1 : Nat) (l0_1 : List (S62)) (A1_0 : Option Addr) (c1_0 : Nat) (l1_0 : List Int) (A1_1 : Option Addr) (c1_1 : Nat) (l1_1 : List (S62)) (r : Bool) (w : World) (hr0_0 : Kd.C (Kd.int .u8) w A0_0 l0_0.length l0_0) (hc0_0 : l0_0.length ≤ c0_0) (hr0_1 : Kd.C k62 w A0_1 l0_1.length l0_1) (hc0_1 : l0_1.length ≤ c0_1) (hr1_0 : Kd.C (Kd.int .u8) w A1_0 l1_0.length l1_0) (hc1_0 : l1_0.length ≤ c1_0) (hr1_1 : Kd.C k62 w A1_1 l1_1.length l1_1) (hc1_1 : l1_1.length ≤ c1_1) (h : laws_lwSameDisk.f k l0_0 l0_1 l1_0 l1_1 = some r) :
  Calls Try.prog 48 #[.agg #[.slice A0_0 l0_0.length c0_0, .slice A0_1 l0_1.length c0_1], .agg #[.slice A1_0 l1_0.length c1_0, .slice A1_1 l1_1.length c1_1]] w fun e w' => e = .returned (.bool r) ∧ Below w.heap.size w w' := by
 have hu29 := Try.underlying29
 have HR0_0 := Aside0.mk hr0_0
 have HC0_0 := Aside0.mk hc0_0
 clear hr0_0 hc0_0
 have HR0_1 := Aside0.mk hr0_1
 have HC0_1 := Aside0.mk hc0_1
 clear hr0_1 hc0_1
 have HR1_0 := Aside0.mk hr1_0
 have HC1_0 := Aside0.mk hc1_0
 clear hr1_0 hc1_0
 have HR1_1 := Aside0.mk hr1_1
 have HC1_1 := Aside0.mk hc1_1
 clear hr1_1 hc1_1
 have HB := Aside0.mk (Below.refl w.heap.size w)
 have H : (if (l0_1.length : Int) = (l1_1.length : Int) then ((laws_lwSameBytes.f l0_0 l1_0).bind fun t470 => (laws_lwSameDisk.j0 k (!t470) l0_0 l0_1 l1_0 l1_1)) else (laws_lwSameDisk.j0 k true l0_0 l0_1 l1_0 l1_1)) = some r := h
 clear h
 have HC3 := Aside0.mk H
 clear H
 go_enter Try.func48, Try.ntmps48
 go_upto_region 1 with (first | ((with_reducible refine gate_dst (N := 2) rfl ?_); refine Rgn.bx 2 #[.slice A0_0 l0_0.length c0_0, .slice A0_1 l0_1.length c0_1] 29 ?_; intro gb468 hg w4 hbox hb; have BK468 := Aside0.mk (hbox); have GW468 := Aside0.mk (Rgn.ge hg HB.out); have GE468 := Aside0.mk (Rgn.ge hg HB.out); replace HB := Aside0.mk (below_step (Rgn.bq HB.out) hb); clear hb hbox hg) | ((with_reducible refine gate_dst (N := 3) rfl ?_); refine Rgn.bx 3 #[.slice A1_0 l1_0.length c1_0, .slice A1_1 l1_1.length c1_1] 29 ?_; intro gb469 hg w5 hbox hb; have BK469 := Aside0.mk (hbox); have GW469 := Aside0.mk (Rgn.ge hg HB.out); have GE469 := Aside0.mk (Rgn.ge hg HB.out); replace HB := Aside0.mk (below_step (Rgn.bq HB.out) hb); have NB468_469 := Aside0.mk (Rgn.nl hg BK468.out); have NB469_468 := Aside0.mk (Rgn.ng hg BK468.out); replace BK468 := Aside0.mk (Rgn.bb BK468.out hb); clear hb hbox hg))
 repeat (go_quiet (first | ((with_reducible refine gate_dst (N := 2) rfl ?_); refine Rgn.bx 2 #[.slice A0_0 l0_0.length c0_0, .slice A0_1 l0_1.length c0_1] 29 ?_; intro gb468 hg w4 hbox hb; have BK468 := Aside0.mk (hbox); have GW468 := Aside0.mk (Rgn.ge hg HB.out); have GE468 := Aside0.mk (Rgn.ge hg HB.out); replace HB := Aside0.mk (below_step (Rgn.bq HB.out) hb); clear hb hbox hg) | ((with_reducible refine gate_dst (N := 3) rfl ?_); refine Rgn.bx 3 #[.slice A1_0 l1_0.length c1_0, .slice A1_1 l1_1.length c1_1] 29 ?_; intro gb469 hg w5 hbox hb; have BK469 := Aside0.mk (hbox); have GW469 := Aside0.mk (Rgn.ge hg HB.out); have GE469 := Aside0.mk (Rgn.ge hg HB.out); replace HB := Aside0.mk (below_step (Rgn.bq HB.out) hb); have NB468_469 := Aside0.mk (Rgn.nl hg BK468.out); have NB469_468 := Aside0.mk (Rgn.ng hg BK468.out); replace BK468 := Aside0.mk (Rgn.bb BK468.out hb); clear hb hbox hg)); go_upto_region 1 with (first | ((with_reducible refine gate_dst (N := 2) rfl ?_); refine Rgn.bx 2 #[.slice A0_0 l0_0.length c0_0, .slice A0_1 l0_1.length c0_1] 29 ?_; intro gb468 hg w4 hbox hb; have BK468 := Aside0.mk (hbox); have GW468 := Aside0.mk (Rgn.ge hg HB.out); have GE468 := Aside0.mk (Rgn.ge hg HB.out); replace HB := Aside0.mk (below_step (Rgn.bq HB.out) hb); clear hb hbox hg) | ((with_reducible refine gate_dst (N := 3) rfl ?_); refine Rgn.bx 3 #[.slice A1_0 l1_0.length c1_0, .slice A1_1 l1_1.length c1_1] 29 ?_; intro gb469 hg w5 hbox hb; have BK469 := Aside0.mk (hbox); have GW469 := Aside0.mk (Rgn.ge hg HB.out); have GE469 := Aside0.mk (Rgn.ge hg HB.out); replace HB := Aside0.mk (below_step (Rgn.bq HB.out) hb); have NB468_469 := Aside0.mk (Rgn.nl hg BK468.out); have NB469_468 := Aside0.mk (Rgn.ng hg BK468.out); replace BK468 := Aside0.mk (Rgn.bb BK468.out hb); clear hb hbox hg)))
 (try simp only [Act.put, List.setIfInBounds_toArray, List.set_cons_zero, List.set_cons_succ])
 go_cut [20] (fun v20 wc => ∃ (kq : Nat) (x20_2 : Bool), v20 = .bool x20_2 ∧ Aside0 (laws_lwSameDisk.j0 kq x20_2 l0_0 l0_1 l1_0 l1_1 = some r) ∧ Aside0 (kq ≤ k) ∧ Aside0 (wc.heap[gb468]? = some (.cells #[(.slice A0_0 l0_0.length c0_0), (.slice A0_1 l0_1.length c0_1)] 29 (0, 0))) ∧ Aside0 (wc.heap[gb469]? = some (.cells #[(.slice A1_0 l1_0.length c1_0), (.slice A1_1 l1_1.length c1_1)] 29 (0, 0))) ∧ Aside0 (Below w.heap.size w wc))
 case first =>
  have H := HC3.out
  clear HC3
  by_cases c6 : (l0_1.length : Int) = (l1_1.length : Int)
  ·
   rw [if_pos c6] at H
   have c6b0 : ((l0_1.length : Int) == (l1_1.length : Int)) = true := beq_iff_eq.mpr c6
   have c6b1 : ((l0_1.length : Int) != (l1_1.length : Int)) = false := bne_eq_false_iff_eq.mpr c6
   have c6b2 : (l0_1.length == l1_1.length) = true := by first | simpa using c6 | (simp at c6 ⊢; omega)
   clear c6
   (first | rw [c6b0] | (simp only [i64_w, i32_w]; rw [c6b0]) | skip)
   replace H := Option.bind_eq_some_iff.mp H
   obtain ⟨t470, A70, H⟩ := H
   replace H : (laws_lwSameDisk.j0 k (!t470) l0_0 l0_1 l1_0 l1_1) = some r := H
   have A7 := Aside0.mk A70
   clear A70
   have H' := Aside0.mk H
   clear H
   have hnb8 := NB468_469.out
   have hnc8 := NB469_468.out
   have hcz9_0 := Rgn.cz0 BK468.out
   have hcz9_1 := Rgn.cz1 BK468.out
   have hfz9_0 := blk_frozen BK468.out 0
   have hfz9_1 := blk_frozen BK468.out 1
   have hcz10_0 := Rgn.cz0 BK469.out
   have hcz10_1 := Rgn.cz1 BK469.out
   have hfz10_0 := blk_frozen BK469.out 0
   have hfz10_1 := blk_frozen BK469.out 1
   go_wp2_with (first | (go_at_call 50; (with_reducible refine (laws_lwSameBytes.calls _ _ l0_0 _ _ l1_0 t470 _ ?side1 ?side2 ?side3 ?side4 A7.out).mono ?_); (case side1 => exact Rgn.cq (Kd.C_below HR0_0.out HB.out)); (case side2 => exact HC0_0.out); (case side3 => exact Rgn.cq (Kd.C_below HR1_0.out HB.out)); (case side4 => exact HC1_0.out); rintro e w' ⟨rfl, ⟨nd, rfl⟩⟩; (try first | exact ⟨rfl, _, World.drewN_drewN _ _ _⟩ | exact ⟨rfl, _, Eq.trans (World.drewN_drewN _ _ _) (congrArg (World.drewN _) (Nat.add_assoc _ _ _))⟩)))
   repeat (go_quiet (first | (go_at_call 50; (with_reducible refine (laws_lwSameBytes.calls _ _ l0_0 _ _ l1_0 t470 _ ?side1 ?side2 ?side3 ?side4 A7.out).mono ?_); (case side1 => exact Rgn.cq (Kd.C_below HR0_0.out HB.out)); (case side2 => exact HC0_0.out); (case side3 => exact Rgn.cq (Kd.C_below HR1_0.out HB.out)); (case side4 => exact HC1_0.out); rintro e w' ⟨rfl, ⟨nd, rfl⟩⟩; (try first | exact ⟨rfl, _, World.drewN_drewN _ _ _⟩ | exact ⟨rfl, _, Eq.trans (World.drewN_drewN _ _ _) (congrArg (World.drewN _) (Nat.add_assoc _ _ _))⟩))); try go_wp2_with (first | (go_at_call 50; (with_reducible refine (laws_lwSameBytes.calls _ _ l0_0 _ _ l1_0 t470 _ ?side1 ?side2 ?side3 ?side4 A7.out).mono ?_); (case side1 => exact Rgn.cq (Kd.C_below HR0_0.out HB.out)); (case side2 => exact HC0_0.out); (case side3 => exact Rgn.cq (Kd.C_below HR1_0.out HB.out)); (case side4 => exact HC1_0.out); rintro e w' ⟨rfl, ⟨nd, rfl⟩⟩; (try first | exact ⟨rfl, _, World.drewN_drewN _ _ _⟩ | exact ⟨rfl, _, Eq.trans (World.drewN_drewN _ _ _) (congrArg (World.drewN _) (Nat.add_assoc _ _ _))⟩))))
   go_meet
   case rel => exact ⟨_, (!t470), (by first | rfl | (simp; done) | (simp [*]; done)), H', ⟨by first | omega | exact Nat.le_refl _⟩, ⟨Rgn.kb BK468.out⟩, ⟨Rgn.kb BK469.out⟩, ⟨Rgn.bq HB.out⟩⟩
  ·
   rw [if_neg c6] at H
   have c6b0 : ((l0_1.length : Int) == (l1_1.length : Int)) = false := beq_eq_false_iff_ne.mpr c6
   have c6b1 : ((l0_1.length : Int) != (l1_1.length : Int)) = true := bne_iff_ne.mpr c6
   have c6b2 : (l0_1.length == l1_1.length) = false := by first | simpa using c6 | (simp at c6 ⊢; omega)
   (first | rw [c6b0] | (simp only [i64_w, i32_w]; rw [c6b0]) | skip)
   have H' := Aside0.mk H
   clear H
   have hnb11 := NB468_469.out
   have hnc11 := NB469_468.out
   have hcz12_0 := Rgn.cz0 BK468.out
   have hcz12_1 := Rgn.cz1 BK468.out
   have hfz12_0 := blk_frozen BK468.out 0
   have hfz12_1 := blk_frozen BK468.out 1
   have hcz13_0 := Rgn.cz0 BK469.out
   have hcz13_1 := Rgn.cz1 BK469.out
   have hfz13_0 := blk_frozen BK469.out 0
   have hfz13_1 := blk_frozen BK469.out 1
   go_wp2
   repeat (go_quiet (fail); try go_wp2)
   go_meet
   case rel => exact ⟨_, (true), (by first | rfl | (simp; done) | (simp [*]; done)), H', ⟨by first | omega | exact Nat.le_refl _⟩, ⟨Rgn.kb BK468.out⟩, ⟨Rgn.kb BK469.out⟩, ⟨Rgn.bq HB.out⟩⟩
 case rest =>
  clear HC3
  try clear c1
  try clear p2
  try clear c4
  try clear c6
  try clear c6b0
  try clear c6b1
  try clear c6b2
  try clear c8
  try clear c11
  try clear hcz10_0 hcz10_1
  try clear hcz12_0 hcz12_1
  try clear hcz13_0 hcz13_1
  try clear hcz9_0 hcz9_1
  try clear hfz10_0 hfz10_1
  try clear hfz12_0 hfz12_1
  try clear hfz13_0 hfz13_1
  try clear hfz9_0 hfz9_1
  obtain ⟨kq, x20_2, rfl, HA, HJ2, BK468, BK469, HB⟩ := hcut
  cases kq with
  | zero => exact absurd HA.out (by simp [laws_lwSameDisk.j0])
  | succ kj2 =>
   have H := HA.out
   clear HA
   simp only [laws_lwSameDisk.j0] at H
   by_cases c14 : x20_2 = true
   ·
    subst c14
    have H1 : (some false) = some r := by rw [if_pos rfl] at H; exact H
    clear H
    have H := H1
    clear H1
    obtain rfl := Option.some.inj H
    go_wp2
    repeat (go_quiet (fail); try go_wp2)
    go_ret
    exact ⟨by first | rfl | (simp [errW_none, errW_some] <;> rfl) | (simp [*, errW_none, errW_some] <;> rfl), Rgn.bq HB.out⟩
   ·
    replace c14 := Bool.eq_false_iff.mpr c14
    subst c14
    have H1 : (laws_lwSameDisk.l0 kj2 0 l0_0 l0_1 l1_0 l1_1) = some r := by rw [if_neg (show ¬ (false = true) by decide)] at H; exact H
    clear H
    have H := H1
    clear H1
    have H' := Aside0.mk H
    clear H
    go_wp2
    repeat (go_quiet (fail); try go_wp2)
    go_loopg [5] kj2 (fun kq v5 w' => ∃ (x5_2 : Int), v5 = .int .i64 x5_2 ∧ Aside0 (laws_lwSameDisk.l0 kq x5_2 l0_0 l0_1 l1_0 l1_1 = some r) ∧ Aside0 (kq ≤ kj2) ∧ Aside0 (w'.heap[gb468]? = some (.cells #[(.slice A0_0 l0_0.length c0_0), (.slice A0_1 l0_1.length c0_1)] 29 (0, 0))) ∧ Aside0 (w'.heap[gb469]? = some (.cells #[(.slice A1_0 l1_0.length c1_0), (.slice A1_1 l1_1.length c1_1)] 29 (0, 0))) ∧ Aside0 (Below w.heap.size w w'))
    case atStart => exact ⟨(0), (by first | rfl | (simp; done) | (simp [*]; done)), H', ⟨Nat.le_refl _⟩, ⟨Rgn.kb BK468.out⟩, ⟨Rgn.kb BK469.out⟩, ⟨Rgn.bq HB.out⟩⟩
    case round =>
     clear H'
     try clear c1
     try clear p2
     try clear c4
     try clear c6
     try clear c6b0
     try clear c6b1
     try clear c6b2
     try clear c8
     try clear c11
     try clear c14
     try clear hcz10_0 hcz10_1
     try clear hcz12_0 hcz12_1
     try clear hcz13_0 hcz13_1
     try clear hcz9_0 hcz9_1
     try clear hfz10_0 hfz10_1
     try clear hfz12_0 hfz12_1
     try clear hfz13_0 hfz13_1
     try clear hfz9_0 hfz9_1
     try clear p2
     obtain ⟨x5_2, rfl, HA, HK2, BK468, BK469, HB⟩ := hrel
     cases gk with
     | zero => exact absurd HA.out (by simp [laws_lwSameDisk.l0])
     | succ k2 =>
      have H := HA.out
      clear HA
      simp only [laws_lwSameDisk.l0] at H
      by_cases c15 : x5_2 < (l0_1.length : Int)
      ·
       rw [if_pos c15] at H
       have c15b0 : decide (x5_2 < (l0_1.length : Int)) = true := decide_eq_true c15
       clear c15
       by_cases c16 : 0 ≤ x5_2
       ·
        rw [if_pos c16] at H
        have c16b0 : decide (0 ≤ x5_2) = true := decide_eq_true c16
        clear c16
        by_cases c17 : x5_2 < (l1_1.length : Int)
        ·
         rw [if_pos c17] at H
         have c17b0 : decide (x5_2 < (l1_1.length : Int)) = true := decide_eq_true c17
         clear c17
         by_cases c18 : ((rd_T62 l0_1 x5_2).f0) = ((rd_T62 l1_1 x5_2).f0)
         ·
          rw [if_pos c18] at H
          have c18b0 : (((rd_T62 l0_1 x5_2).f0) == ((rd_T62 l1_1 x5_2).f0)) = true := beq_iff_eq.mpr c18
          have c18b1 : (((rd_T62 l0_1 x5_2).f0) != ((rd_T62 l1_1 x5_2).f0)) = false := bne_eq_false_iff_eq.mpr c18
          clear c18
          replace H := Option.bind_eq_some_iff.mp H
          obtain ⟨t475, A190, H⟩ := H
          replace H : (if t475 = true then (laws_lwSameDisk.l0 k2 (wrap64 (x5_2 + 1)) l0_0 l0_1 l1_0 l1_1) else (some false)) = some r := H
          have A19 := Aside0.mk A190
          clear A190
          by_cases c20 : t475 = true
          ·
           subst c20
           have H1 : (laws_lwSameDisk.l0 k2 (wrap64 (x5_2 + 1)) l0_0 l0_1 l1_0 l1_1) = some r := by rw [if_pos rfl] at H; exact H
           clear H
           have H := H1
           clear H1
           have H' := Aside0.mk H
           clear H
           have hnb21 := NB468_469.out
           have hnc21 := NB469_468.out
           have hcz22_0 := Rgn.cz0 BK468.out
           have hcz22_1 := Rgn.cz1 BK468.out
           have hfz22_0 := blk_frozen BK468.out 0
           have hfz22_1 := blk_frozen BK468.out 1
           have p471 : 0 ≤ (x5_2 : Int) := of_decide_eq_true (by first | (with_reducible assumption) | assumption)
           have q471 : x5_2 < (l0_1.length : Int) := of_decide_eq_true (by first | (with_reducible assumption) | assumption)
           obtain ⟨ad471, A471_1, c471_1, e471, hx471_0, hx471_1, hl471_1, hi471_1⟩ := at_T62 HR0_1.out x5_2 p471 q471
           cases e471
           replace hx471_0 := Rgn.hx HB.out hx471_0
           replace hx471_1 := Rgn.hx HB.out hx471_1
           have HR471_1 := Aside0.mk hi471_1
           have HC471_1 := Aside0.mk hl471_1
           clear hi471_1 hl471_1
           replace p471 := eq_true p471
           replace q471 := eq_true q471
           have hcz23_0 := Rgn.cz0 BK469.out
           have hcz23_1 := Rgn.cz1 BK469.out
           have hfz23_0 := blk_frozen BK469.out 0
           have hfz23_1 := blk_frozen BK469.out 1
           have p472 : 0 ≤ (x5_2 : Int) := of_decide_eq_true (by first | (with_reducible assumption) | assumption)
           have q472 : x5_2 < (l1_1.length : Int) := of_decide_eq_true (by first | (with_reducible assumption) | assumption)
           obtain ⟨ad472, A472_1, c472_1, e472, hx472_0, hx472_1, hl472_1, hi472_1⟩ := at_T62 HR1_1.out x5_2 p472 q472
           cases e472
           replace hx472_0 := Rgn.hx HB.out hx472_0
           replace hx472_1 := Rgn.hx HB.out hx472_1
           have HR472_1 := Aside0.mk hi472_1
           have HC472_1 := Aside0.mk hl472_1
           clear hi472_1 hl472_1
           replace p472 := eq_true p472
           replace q472 := eq_true q472
           have p473 : 0 ≤ (x5_2 : Int) := of_decide_eq_true (by first | (with_reducible assumption) | assumption)
           have q473 : x5_2 < (l0_1.length : Int) := of_decide_eq_true (by first | (with_reducible assumption) | assumption)
           obtain ⟨ad473, A473_1, c473_1, e473, hx473_0, hx473_1, hl473_1, hi473_1⟩ := at_T62 HR0_1.out x5_2 p473 q473
           obtain rfl : ad471 = ad473 := (by injection e473)
           replace hx473_0 := Rgn.hx HB.out hx473_0
           replace hx473_1 := Rgn.hx HB.out hx473_1
           have HR473_1 := Aside0.mk hi473_1
           have HC473_1 := Aside0.mk hl473_1
           clear hi473_1 hl473_1
           replace p473 := eq_true p473
           replace q473 := eq_true q473
           have ea_ := Option.some.inj (hx471_1.symm.trans hx473_1)
           injection ea_ with ea_ en_ ec_
           subst ea_
           subst ec_
           clear en_
           have p474 : 0 ≤ (x5_2 : Int) := of_decide_eq_true (by first | (with_reducible assumption) | assumption)
           have q474 : x5_2 < (l1_1.length : Int) := of_decide_eq_true (by first | (with_reducible assumption) | assumption)
           obtain ⟨ad474, A474_1, c474_1, e474, hx474_0, hx474_1, hl474_1, hi474_1⟩ := at_T62 HR1_1.out x5_2 p474 q474
           obtain rfl : ad472 = ad474 := (by injection e474)
           replace hx474_0 := Rgn.hx HB.out hx474_0
           replace hx474_1 := Rgn.hx HB.out hx474_1
           have HR474_1 := Aside0.mk hi474_1
           have HC474_1 := Aside0.mk hl474_1
           clear hi474_1 hl474_1
           replace p474 := eq_true p474
           replace q474 := eq_true q474
           have ea_ := Option.some.inj (hx472_1.symm.trans hx474_1)
           injection ea_ with ea_ en_ ec_
           subst ea_
           subst ec_
           clear en_
           go_wp2_with (first | (go_at_call 50; (with_reducible refine (laws_lwSameBytes.calls _ _ ((rd_T62 l0_1 x5_2).f1) _ _ ((rd_T62 l1_1 x5_2).f1) true _ ?side1 ?side2 ?side3 ?side4 A19.out).mono ?_); (case side1 => exact Rgn.cq (Kd.C_below HR473_1.out HB.out)); (case side2 => exact HC473_1.out); (case side3 => exact Rgn.cq (Kd.C_below HR474_1.out HB.out)); (case side4 => exact HC474_1.out); rintro e w' ⟨rfl, ⟨nd, rfl⟩⟩; (try first | exact ⟨rfl, _, World.drewN_drewN _ _ _⟩ | exact ⟨rfl, _, Eq.trans (World.drewN_drewN _ _ _) (congrArg (World.drewN _) (Nat.add_assoc _ _ _))⟩)))
           repeat (go_quiet (first | (go_at_call 50; (with_reducible refine (laws_lwSameBytes.calls _ _ ((rd_T62 l0_1 x5_2).f1) _ _ ((rd_T62 l1_1 x5_2).f1) true _ ?side1 ?side2 ?side3 ?side4 A19.out).mono ?_); (case side1 => exact Rgn.cq (Kd.C_below HR473_1.out HB.out)); (case side2 => exact HC473_1.out); (case side3 => exact Rgn.cq (Kd.C_below HR474_1.out HB.out)); (case side4 => exact HC474_1.out); rintro e w' ⟨rfl, ⟨nd, rfl⟩⟩; (try first | exact ⟨rfl, _, World.drewN_drewN _ _ _⟩ | exact ⟨rfl, _, Eq.trans (World.drewN_drewN _ _ _) (congrArg (World.drewN _) (Nat.add_assoc _ _ _))⟩))); try go_wp2_with (first | (go_at_call 50; (with_reducible refine (laws_lwSameBytes.calls _ _ ((rd_T62 l0_1 x5_2).f1) _ _ ((rd_T62 l1_1 x5_2).f1) true _ ?side1 ?side2 ?side3 ?side4 A19.out).mono ?_); (case side1 => exact Rgn.cq (Kd.C_below HR473_1.out HB.out)); (case side2 => exact HC473_1.out); (case side3 => exact Rgn.cq (Kd.C_below HR474_1.out HB.out)); (case side4 => exact HC474_1.out); rintro e w' ⟨rfl, ⟨nd, rfl⟩⟩; (try first | exact ⟨rfl, _, World.drewN_drewN _ _ _⟩ | exact ⟨rfl, _, Eq.trans (World.drewN_drewN _ _ _) (congrArg (World.drewN _) (Nat.add_assoc _ _ _))⟩))))
           go_roundg k2
           case measure => have := HJ2.out; have := HK2.out; omega
           case rel => exact ⟨(wrap64 (x5_2 + 1)), (by first | rfl | (simp; done) | (simp [*]; done)), H', ⟨by have := HJ2.out; have := HK2.out; omega⟩, ⟨Rgn.kb BK468.out⟩, ⟨Rgn.kb BK469.out⟩, ⟨Rgn.bq HB.out⟩⟩
          ·
           replace c20 := Bool.eq_false_iff.mpr c20
           subst c20
           have H1 : (some false) = some r := by rw [if_neg (show ¬ (false = true) by decide)] at H; exact H
           clear H
           have H := H1
           clear H1
           obtain rfl := Option.some.inj H
           have hnb24 := NB468_469.out
           have hnc24 := NB469_468.out
           have hcz25_0 := Rgn.cz0 BK468.out
           have hcz25_1 := Rgn.cz1 BK468.out
           have hfz25_0 := blk_frozen BK468.out 0
           have hfz25_1 := blk_frozen BK468.out 1
           have p471 : 0 ≤ (x5_2 : Int) := of_decide_eq_true (by first | (with_reducible assumption) | assumption)
           have q471 : x5_2 < (l0_1.length : Int) := of_decide_eq_true (by first | (with_reducible assumption) | assumption)
           obtain ⟨ad471, A471_1, c471_1, e471, hx471_0, hx471_1, hl471_1, hi471_1⟩ := at_T62 HR0_1.out x5_2 p471 q471
           cases e471
           replace hx471_0 := Rgn.hx HB.out hx471_0
           replace hx471_1 := Rgn.hx HB.out hx471_1
           have HR471_1 := Aside0.mk hi471_1
           have HC471_1 := Aside0.mk hl471_1
           clear hi471_1 hl471_1
           replace p471 := eq_true p471
           replace q471 := eq_true q471
           have hcz26_0 := Rgn.cz0 BK469.out
           have hcz26_1 := Rgn.cz1 BK469.out
           have hfz26_0 := blk_frozen BK469.out 0
           have hfz26_1 := blk_frozen BK469.out 1
           have p472 : 0 ≤ (x5_2 : Int) := of_decide_eq_true (by first | (with_reducible assumption) | assumption)
           have q472 : x5_2 < (l1_1.length : Int) := of_decide_eq_true (by first | (with_reducible assumption) | assumption)
           obtain ⟨ad472, A472_1, c472_1, e472, hx472_0, hx472_1, hl472_1, hi472_1⟩ := at_T62 HR1_1.out x5_2 p472 q472
           cases e472
           replace hx472_0 := Rgn.hx HB.out hx472_0
           replace hx472_1 := Rgn.hx HB.out hx472_1
           have HR472_1 := Aside0.mk hi472_1
           have HC472_1 := Aside0.mk hl472_1
           clear hi472_1 hl472_1
           replace p472 := eq_true p472
           replace q472 := eq_true q472
           have p473 : 0 ≤ (x5_2 : Int) := of_decide_eq_true (by first | (with_reducible assumption) | assumption)
           have q473 : x5_2 < (l0_1.length : Int) := of_decide_eq_true (by first | (with_reducible assumption) | assumption)
           obtain ⟨ad473, A473_1, c473_1, e473, hx473_0, hx473_1, hl473_1, hi473_1⟩ := at_T62 HR0_1.out x5_2 p473 q473
           obtain rfl : ad471 = ad473 := (by injection e473)
           replace hx473_0 := Rgn.hx HB.out hx473_0
           replace hx473_1 := Rgn.hx HB.out hx473_1
           have HR473_1 := Aside0.mk hi473_1
           have HC473_1 := Aside0.mk hl473_1
           clear hi473_1 hl473_1
           replace p473 := eq_true p473
           replace q473 := eq_true q473
           have ea_ := Option.some.inj (hx471_1.symm.trans hx473_1)
           injection ea_ with ea_ en_ ec_
           subst ea_
           subst ec_
           clear en_
           have p474 : 0 ≤ (x5_2 : Int) := of_decide_eq_true (by first | (with_reducible assumption) | assumption)
           have q474 : x5_2 < (l1_1.length : Int) := of_decide_eq_true (by first | (with_reducible assumption) | assumption)
           obtain ⟨ad474, A474_1, c474_1, e474, hx474_0, hx474_1, hl474_1, hi474_1⟩ := at_T62 HR1_1.out x5_2 p474 q474
           obtain rfl : ad472 = ad474 := (by injection e474)
           replace hx474_0 := Rgn.hx HB.out hx474_0
           replace hx474_1 := Rgn.hx HB.out hx474_1
           have HR474_1 := Aside0.mk hi474_1
           have HC474_1 := Aside0.mk hl474_1
           clear hi474_1 hl474_1
           replace p474 := eq_true p474
           replace q474 := eq_true q474
           have ea_ := Option.some.inj (hx472_1.symm.trans hx474_1)
           injection ea_ with ea_ en_ ec_
           subst ea_
           subst ec_
           clear en_
           go_wp2_with (first | (go_at_call 50; (with_reducible refine (laws_lwSameBytes.calls _ _ ((rd_T62 l0_1 x5_2).f1) _ _ ((rd_T62 l1_1 x5_2).f1) false _ ?side1 ?side2 ?side3 ?side4 A19.out).mono ?_); (case side1 => exact Rgn.cq (Kd.C_below HR473_1.out HB.out)); (case side2 => exact HC473_1.out); (case side3 => exact Rgn.cq (Kd.C_below HR474_1.out HB.out)); (case side4 => exact HC474_1.out); rintro e w' ⟨rfl, ⟨nd, rfl⟩⟩; (try first | exact ⟨rfl, _, World.drewN_drewN _ _ _⟩ | exact ⟨rfl, _, Eq.trans (World.drewN_drewN _ _ _) (congrArg (World.drewN _) (Nat.add_assoc _ _ _))⟩)))
           repeat (go_quiet (first | (go_at_call 50; (with_reducible refine (laws_lwSameBytes.calls _ _ ((rd_T62 l0_1 x5_2).f1) _ _ ((rd_T62 l1_1 x5_2).f1) false _ ?side1 ?side2 ?side3 ?side4 A19.out).mono ?_); (case side1 => exact Rgn.cq (Kd.C_below HR473_1.out HB.out)); (case side2 => exact HC473_1.out); (case side3 => exact Rgn.cq (Kd.C_below HR474_1.out HB.out)); (case side4 => exact HC474_1.out); rintro e w' ⟨rfl, ⟨nd, rfl⟩⟩; (try first | exact ⟨rfl, _, World.drewN_drewN _ _ _⟩ | exact ⟨rfl, _, Eq.trans (World.drewN_drewN _ _ _) (congrArg (World.drewN _) (Nat.add_assoc _ _ _))⟩))); try go_wp2_with (first | (go_at_call 50; (with_reducible refine (laws_lwSameBytes.calls _ _ ((rd_T62 l0_1 x5_2).f1) _ _ ((rd_T62 l1_1 x5_2).f1) false _ ?side1 ?side2 ?side3 ?side4 A19.out).mono ?_); (case side1 => exact Rgn.cq (Kd.C_below HR473_1.out HB.out)); (case side2 => exact HC473_1.out); (case side3 => exact Rgn.cq (Kd.C_below HR474_1.out HB.out)); (case side4 => exact HC474_1.out); rintro e w' ⟨rfl, ⟨nd, rfl⟩⟩; (try first | exact ⟨rfl, _, World.drewN_drewN _ _ _⟩ | exact ⟨rfl, _, Eq.trans (World.drewN_drewN _ _ _) (congrArg (World.drewN _) (Nat.add_assoc _ _ _))⟩))))
           go_ret
           exact ⟨by first | rfl | (simp [errW_none, errW_some] <;> rfl) | (simp [*, errW_none, errW_some] <;> rfl), Rgn.bq HB.out⟩
         ·
          rw [if_neg c18] at H
          have c18b0 : (((rd_T62 l0_1 x5_2).f0) == ((rd_T62 l1_1 x5_2).f0)) = false := beq_eq_false_iff_ne.mpr c18
          have c18b1 : (((rd_T62 l0_1 x5_2).f0) != ((rd_T62 l1_1 x5_2).f0)) = true := bne_iff_ne.mpr c18
          obtain rfl := Option.some.inj H
          have hnb27 := NB468_469.out
          have hnc27 := NB469_468.out
          have hcz28_0 := Rgn.cz0 BK468.out
          have hcz28_1 := Rgn.cz1 BK468.out
          have hfz28_0 := blk_frozen BK468.out 0
          have hfz28_1 := blk_frozen BK468.out 1
          have p471 : 0 ≤ (x5_2 : Int) := of_decide_eq_true (by first | (with_reducible assumption) | assumption)
          have q471 : x5_2 < (l0_1.length : Int) := of_decide_eq_true (by first | (with_reducible assumption) | assumption)
          obtain ⟨ad471, A471_1, c471_1, e471, hx471_0, hx471_1, hl471_1, hi471_1⟩ := at_T62 HR0_1.out x5_2 p471 q471
          cases e471
          replace hx471_0 := Rgn.hx HB.out hx471_0
          replace hx471_1 := Rgn.hx HB.out hx471_1
          have HR471_1 := Aside0.mk hi471_1
          have HC471_1 := Aside0.mk hl471_1
          clear hi471_1 hl471_1
          replace p471 := eq_true p471
          replace q471 := eq_true q471
          have hcz29_0 := Rgn.cz0 BK469.out
          have hcz29_1 := Rgn.cz1 BK469.out
          have hfz29_0 := blk_frozen BK469.out 0
          have hfz29_1 := blk_frozen BK469.out 1
          have p472 : 0 ≤ (x5_2 : Int) := of_decide_eq_true (by first | (with_reducible assumption) | assumption)
          have q472 : x5_2 < (l1_1.length : Int) := of_decide_eq_true (by first | (with_reducible assumption) | assumption)
          obtain ⟨ad472, A472_1, c472_1, e472, hx472_0, hx472_1, hl472_1, hi472_1⟩ := at_T62 HR1_1.out x5_2 p472 q472
          cases e472
          replace hx472_0 := Rgn.hx HB.out hx472_0
          replace hx472_1 := Rgn.hx HB.out hx472_1
          have HR472_1 := Aside0.mk hi472_1
          have HC472_1 := Aside0.mk hl472_1
          clear hi472_1 hl472_1
          replace p472 := eq_true p472
          replace q472 := eq_true q472
          go_wp2
          repeat (go_quiet (fail); try go_wp2)
          go_ret
          exact ⟨by first | rfl | (simp [errW_none, errW_some] <;> rfl) | (simp [*, errW_none, errW_some] <;> rfl), Rgn.bq HB.out⟩
        ·
         rw [if_neg c17] at H
         exact absurd H (by simp)
       ·
        rw [if_neg c16] at H
        exact absurd H (by simp)
      ·
       rw [if_neg c15] at H
       have c15b0 : decide (x5_2 < (l0_1.length : Int)) = false := decide_eq_false c15
       clear c15
       obtain rfl := Option.some.inj H
       have hnb30 := NB468_469.out
       have hnc30 := NB469_468.out
       have hcz31_0 := Rgn.cz0 BK468.out
       have hcz31_1 := Rgn.cz1 BK468.out
       have hfz31_0 := blk_frozen BK468.out 0
       have hfz31_1 := blk_frozen BK468.out 1
       go_wp2
       repeat (go_quiet (fail); try go_wp2)
       go_ret
       exact ⟨by first | rfl | (simp [errW_none, errW_some] <;> rfl) | (simp [*, errW_none, errW_some] <;> rfl), Rgn.bq HB.out⟩

/-! ### laws_lwKeep: function 49 -/
def laws_lwKeep.l0 : Nat → List Int → Int → List Int → Int → Int → Option (List Int)
 | 0, _, _, _, _, _ => none
 | k + 1, x0, x1, x5, x6, x7 => if x7 < 40 then ((laws_lwAt.f x0 (wrap64 (x1 + x7)) 2).bind fun t480 => (if x6 = 0 then (if x6 = 1 then ((laws_lwAt.f x0 (wrap64 (x1 + x7)) 5).bind fun t481 => (if t481 > 0 then (if x5.length < 17592186044416 then (laws_lwKeep.l0 k x0 x1 (x5 ++ [1]) x6 (wrap64 (x7 + 1))) else (none)) else (if x5.length < 17592186044416 then (laws_lwKeep.l0 k x0 x1 (x5 ++ [1]) x6 (wrap64 (x7 + 1))) else (none)))) else (if x5.length < 17592186044416 then (laws_lwKeep.l0 k x0 x1 (x5 ++ [1]) x6 (wrap64 (x7 + 1))) else (none))) else (if x6 = 1 then ((laws_lwAt.f x0 (wrap64 (x1 + x7)) 5).bind fun t491 => (if t491 > 0 then (if x5.length < 17592186044416 then (laws_lwKeep.l0 k x0 x1 (x5 ++ [1]) x6 (wrap64 (x7 + 1))) else (none)) else (if x5.length < 17592186044416 then (laws_lwKeep.l0 k x0 x1 (x5 ++ [t480]) x6 (wrap64 (x7 + 1))) else (none)))) else (if x5.length < 17592186044416 then (laws_lwKeep.l0 k x0 x1 (x5 ++ [t480]) x6 (wrap64 (x7 + 1))) else (none))))) else (some x5)
def laws_lwKeep.f (k : Nat) (l0 : List Int) (a1 : Int) : Option (List Int) := (laws_lwAt.f l0 a1 4).bind fun t479 => (laws_lwKeep.l0 k l0 a1 (([] : List Int)) t479 0)
set_option maxHeartbeats 8000000 in
set_option maxRecDepth 100000 in
theorem laws_lwKeep.calls (k : Nat) (A0 : Option Addr) (c0 : Nat) (l0 : List Int) (a1 : Int) (r : List Int) (w : World) (hr0 : Kd.C (Kd.int .u8) w A0 l0.length l0) (hc0 : l0.length ≤ c0) (h : laws_lwKeep.f k l0 a1 = some r) :
  Calls Try.prog 49 #[.slice A0 l0.length c0, .int .i64 a1] w fun e w' => ∃ v0_ : Value, e = .returned (v0_) ∧ Kd.R (Kd.int .i64) 2 w' w.heap.size (fun _ => True) v0_ r ∧ Below w.heap.size w w' := by
 have HR0 := Aside0.mk hr0
 have HC0 := Aside0.mk hc0
 clear hr0 hc0
 have HB := Aside0.mk (Below.refl w.heap.size w)
 have H : ((laws_lwAt.f l0 a1 4).bind fun t479 => (laws_lwKeep.l0 k l0 a1 (([] : List Int)) t479 0)) = some r := h
 clear h
 obtain ⟨y476, hy476⟩ : ∃ y_ : List Int, y_ = (([] : List Int)) := ⟨_, rfl⟩
 replace H : ((laws_lwAt.f l0 a1 4).bind fun t479 => (laws_lwKeep.l0 k l0 a1 y476 t479 0)) = some r := by first | (rw [hy476]; with_reducible exact H) | (have H2_ := (Option.bind_some _ _).symm.trans H; rw [hy476]; with_reducible exact H2_) | (have H2_ := (Option.bind_some _ _).symm.trans H; with_reducible exact H2_) | with_reducible exact H | (rw [hy476]; exact H) | exact H
 have Ny476 := Aside0.mk hy476
 clear hy476
 replace H := Option.bind_eq_some_iff.mp H
 obtain ⟨t479, A30, H⟩ := H
 replace H : (laws_lwKeep.l0 k l0 a1 y476 t479 0) = some r := H
 have A3 := Aside0.mk A30
 clear A30
 have H' := Aside0.mk H
 clear H
 go_enter Try.func49, Try.ntmps49
 go_wp2_with (first | ((with_reducible refine gate_dst (N := 9) rfl ?_); refine Kd.R_lit (Kd.int .i64) _ 2 ?hg (N := 9) ?hd (xs := ([] : List Int)) (inner := []) (ok := fun _ => True) (okp := fun _ => True) ?hr ?hp (fun _ hk => hk) trivial (Below.refl _ _) (Nat.le_refl _) (by simp) ?_; (case hd => rfl); (case hg => rfl); (case hr => first | (go_simp; done) | (go_simp; rfl)); (case hp => exact (Reps.none _ _)); intro v477 w4 ho5 hb hg_ hnew_; clear hg_ hnew_; (first | rw [← Ny476.out] at ho5 | (simp only [Int.reduceToNat] at ho5; rw [← Ny476.out] at ho5)); have HO478 := Aside0.mk (Kd.R_lower ho5 (below_size (Rgn.bq HB.out))); replace HB := Aside0.mk (below_step (Rgn.bq HB.out) hb); clear hb ho5) | ((with_reducible refine gate_callee (f := 44) rfl ?_); refine Rgn.gl (some 12) Try.func44 #[.slice A0 l0.length c0, .int .i64 a1, .int .i64 4] ?_; (with_reducible refine (laws_lwAt.calls _ _ l0 a1 4 t479 _ ?side1 ?side2 A3.out).mono ?_); (case side1 => exact Rgn.cq (Kd.C_below HR0.out HB.out)); (case side2 => exact HC0.out); rintro e w' ⟨rfl, ⟨nd, rfl⟩⟩; refine ⟨_, rfl, ?_⟩))
 go_loopg [5, 7] k (fun kq v5 v7 w' => ∃ (x5_1 : List Int) (x7_1 : Int), v7 = .int .i64 x7_1 ∧ Aside0 (laws_lwKeep.l0 kq l0 a1 x5_1 t479 x7_1 = some r) ∧ Aside0 (kq ≤ k) ∧ Aside0 (Kd.R (Kd.int .i64) 2 w' w.heap.size (fun _ => True) v5 x5_1) ∧ Aside0 (Below w.heap.size w w'))
 case atStart => exact ⟨(y476), (0), (by first | rfl | (simp; done) | (simp [*]; done)), H', ⟨Nat.le_refl _⟩, ⟨Rgn.rq HO478.out⟩, ⟨Rgn.bq HB.out⟩⟩
 case round =>
  clear H'
  try clear p2
  try clear c4
  obtain ⟨x5_1, x7_1, rfl, HA, HK1, HO_5, HB⟩ := hrel
  cases gk with
  | zero => exact absurd HA.out (by simp [laws_lwKeep.l0])
  | succ k1 =>
   have H := HA.out
   clear HA
   simp only [laws_lwKeep.l0] at H
   by_cases c6 : x7_1 < 40
   ·
    rw [if_pos c6] at H
    have c6b0 : decide (x7_1 < 40) = true := decide_eq_true c6
    clear c6
    replace H := Option.bind_eq_some_iff.mp H
    obtain ⟨t480, A70, H⟩ := H
    replace H : (if t479 = 0 then (if t479 = 1 then ((laws_lwAt.f l0 (wrap64 (a1 + x7_1)) 5).bind fun t481 => (if t481 > 0 then (if x5_1.length < 17592186044416 then (laws_lwKeep.l0 k1 l0 a1 (x5_1 ++ [1]) t479 (wrap64 (x7_1 + 1))) else (none)) else (if x5_1.length < 17592186044416 then (laws_lwKeep.l0 k1 l0 a1 (x5_1 ++ [1]) t479 (wrap64 (x7_1 + 1))) else (none)))) else (if x5_1.length < 17592186044416 then (laws_lwKeep.l0 k1 l0 a1 (x5_1 ++ [1]) t479 (wrap64 (x7_1 + 1))) else (none))) else (if t479 = 1 then ((laws_lwAt.f l0 (wrap64 (a1 + x7_1)) 5).bind fun t491 => (if t491 > 0 then (if x5_1.length < 17592186044416 then (laws_lwKeep.l0 k1 l0 a1 (x5_1 ++ [1]) t479 (wrap64 (x7_1 + 1))) else (none)) else (if x5_1.length < 17592186044416 then (laws_lwKeep.l0 k1 l0 a1 (x5_1 ++ [t480]) t479 (wrap64 (x7_1 + 1))) else (none)))) else (if x5_1.length < 17592186044416 then (laws_lwKeep.l0 k1 l0 a1 (x5_1 ++ [t480]) t479 (wrap64 (x7_1 + 1))) else (none)))) = some r := H
    have A7 := Aside0.mk A70
    clear A70
    by_cases c8 : t479 = 0
    ·
     rw [if_pos c8] at H
     have c8b0 : (t479 == 0) = true := beq_iff_eq.mpr c8
     have c8b1 : (t479 != 0) = false := bne_eq_false_iff_eq.mpr c8
     clear c8
     by_cases c9 : t479 = 1
     ·
      rw [if_pos c9] at H
      have c9b0 : (t479 == 1) = true := beq_iff_eq.mpr c9
      have c9b1 : (t479 != 1) = false := bne_eq_false_iff_eq.mpr c9
      clear c9
      replace H := Option.bind_eq_some_iff.mp H
      obtain ⟨t481, A100, H⟩ := H
      replace H : (if t481 > 0 then (if x5_1.length < 17592186044416 then (laws_lwKeep.l0 k1 l0 a1 (x5_1 ++ [1]) t479 (wrap64 (x7_1 + 1))) else (none)) else (if x5_1.length < 17592186044416 then (laws_lwKeep.l0 k1 l0 a1 (x5_1 ++ [1]) t479 (wrap64 (x7_1 + 1))) else (none))) = some r := H
      have A10 := Aside0.mk A100
      clear A100
      by_cases c11 : t481 > 0
      ·
       rw [if_pos c11] at H
       have c11b0 : decide (0 < t481) = true := decide_eq_true c11
       clear c11
       by_cases c12 : x5_1.length < 17592186044416
       ·
        rw [if_pos c12] at H
        have LMc12 := Aside0.mk c12
        clear c12
        obtain ⟨y482, hy482⟩ : ∃ y_ : List Int, y_ = (x5_1 ++ [1]) := ⟨_, rfl⟩
        replace H : (laws_lwKeep.l0 k1 l0 a1 y482 t479 (wrap64 (x7_1 + 1))) = some r := by first | (rw [hy482]; with_reducible exact H) | (have H2_ := (Option.bind_some _ _).symm.trans H; rw [hy482]; with_reducible exact H2_) | (have H2_ := (Option.bind_some _ _).symm.trans H; with_reducible exact H2_) | with_reducible exact H | (rw [hy482]; exact H) | exact H
        have Ny482 := Aside0.mk hy482
        clear hy482
        have H' := Aside0.mk H
        clear H
        go_wp2_with (first | ((with_reducible refine gate_callee (f := 44) rfl ?_); refine Rgn.gl (some 21) Try.func44 #[.slice A0 l0.length c0, .int .i64 (wrap64 (a1 + x7_1)), .int .i64 2] ?_; (with_reducible refine (laws_lwAt.calls _ _ l0 (wrap64 (a1 + x7_1)) 2 t480 _ ?side1 ?side2 A7.out).mono ?_); (case side1 => exact Rgn.cq (Kd.C_below HR0.out HB.out)); (case side2 => exact HC0.out); rintro e w' ⟨rfl, ⟨nd, rfl⟩⟩; refine ⟨_, rfl, ?_⟩) | (go_at_call 44; (with_reducible refine (laws_lwAt.calls _ _ l0 (wrap64 (a1 + x7_1)) 5 t481 _ ?side1 ?side2 A10.out).mono ?_); (case side1 => repeat (first | exact (Kd.C_below HR0.out (Rgn.bq HB.out)) | (with_reducible refine Kd.C_alloc ?_ _) | (with_reducible refine Kd.C_drewN ?_ _) | (with_reducible refine Kd.C_drew ?_))); (case side2 => exact HC0.out); rintro e w' ⟨rfl, ⟨nd, rfl⟩⟩) | ((with_reducible refine gate_builtin (b := .append) (xs := #[.tmp 34, .tmp 36]) rfl ?_); at_builtin; refine Kd.R_append (Kd.int .i64) (w0 := w) w.heap.size rfl (.tmp 34) (.tmp 36) 48 2 (.int .i64 0) 8 rfl Try.underlying48 info2 rfl (by decide) (by omega) u5 x5_1 1 [.int .i64 1] (fun _ => True) (fun _ => False) rfl rfl ?aP (fun _ hk => hk.elim) ?aF ?aO ?aB ?aS ?aL ?_; (case aP => exact rfl); (case aB => exact (Rgn.bq HB.out)); (case aF => exact (fun _ _ => trivial)); (case aO => exact (Rgn.rq HO_5.out)); (case aS => exact (below_size (Rgn.bq HB.out))); (case aL => have := LMc12.out; omega); intro v483 w13 ho hb hg hat; rw [← Ny482.out] at ho; replace HB := Aside0.mk (hb); have HO484 := Aside0.mk (ho); clear HO_5; clear ho hb hg hat))
        go_roundg k1
        case measure => have := HK1.out; omega
        case rel => exact ⟨(y482), (wrap64 (x7_1 + 1)), (by first | rfl | (simp; done) | (simp [*]; done)), H', ⟨by have := HK1.out; omega⟩, ⟨Rgn.rq HO484.out⟩, ⟨Rgn.bq HB.out⟩⟩
       ·
        rw [if_neg c12] at H
        exact absurd H (by simp)
      ·
       rw [if_neg c11] at H
       have c11b0 : decide (0 < t481) = false := decide_eq_false c11
       clear c11
       by_cases c14 : x5_1.length < 17592186044416
       ·
        rw [if_pos c14] at H
        have LMc14 := Aside0.mk c14
        clear c14
        obtain ⟨y485, hy485⟩ : ∃ y_ : List Int, y_ = (x5_1 ++ [1]) := ⟨_, rfl⟩
        replace H : (laws_lwKeep.l0 k1 l0 a1 y485 t479 (wrap64 (x7_1 + 1))) = some r := by first | (rw [hy485]; with_reducible exact H) | (have H2_ := (Option.bind_some _ _).symm.trans H; rw [hy485]; with_reducible exact H2_) | (have H2_ := (Option.bind_some _ _).symm.trans H; with_reducible exact H2_) | with_reducible exact H | (rw [hy485]; exact H) | exact H
        have Ny485 := Aside0.mk hy485
        clear hy485
        have H' := Aside0.mk H
        clear H
        go_wp2_with (first | ((with_reducible refine gate_callee (f := 44) rfl ?_); refine Rgn.gl (some 21) Try.func44 #[.slice A0 l0.length c0, .int .i64 (wrap64 (a1 + x7_1)), .int .i64 2] ?_; (with_reducible refine (laws_lwAt.calls _ _ l0 (wrap64 (a1 + x7_1)) 2 t480 _ ?side1 ?side2 A7.out).mono ?_); (case side1 => exact Rgn.cq (Kd.C_below HR0.out HB.out)); (case side2 => exact HC0.out); rintro e w' ⟨rfl, ⟨nd, rfl⟩⟩; refine ⟨_, rfl, ?_⟩) | (go_at_call 44; (with_reducible refine (laws_lwAt.calls _ _ l0 (wrap64 (a1 + x7_1)) 5 t481 _ ?side1 ?side2 A10.out).mono ?_); (case side1 => repeat (first | exact (Kd.C_below HR0.out (Rgn.bq HB.out)) | (with_reducible refine Kd.C_alloc ?_ _) | (with_reducible refine Kd.C_drewN ?_ _) | (with_reducible refine Kd.C_drew ?_))); (case side2 => exact HC0.out); rintro e w' ⟨rfl, ⟨nd, rfl⟩⟩) | ((with_reducible refine gate_builtin (b := .append) (xs := #[.tmp 34, .tmp 36]) rfl ?_); at_builtin; refine Kd.R_append (Kd.int .i64) (w0 := w) w.heap.size rfl (.tmp 34) (.tmp 36) 48 2 (.int .i64 0) 8 rfl Try.underlying48 info2 rfl (by decide) (by omega) u5 x5_1 1 [.int .i64 1] (fun _ => True) (fun _ => False) rfl rfl ?aP (fun _ hk => hk.elim) ?aF ?aO ?aB ?aS ?aL ?_; (case aP => exact rfl); (case aB => exact (Rgn.bq HB.out)); (case aF => exact (fun _ _ => trivial)); (case aO => exact (Rgn.rq HO_5.out)); (case aS => exact (below_size (Rgn.bq HB.out))); (case aL => have := LMc14.out; omega); intro v486 w15 ho hb hg hat; rw [← Ny485.out] at ho; replace HB := Aside0.mk (hb); have HO487 := Aside0.mk (ho); clear HO_5; clear ho hb hg hat))
        go_roundg k1
        case measure => have := HK1.out; omega
        case rel => exact ⟨(y485), (wrap64 (x7_1 + 1)), (by first | rfl | (simp; done) | (simp [*]; done)), H', ⟨by have := HK1.out; omega⟩, ⟨Rgn.rq HO487.out⟩, ⟨Rgn.bq HB.out⟩⟩
       ·
        rw [if_neg c14] at H
        exact absurd H (by simp)
     ·
      rw [if_neg c9] at H
      have c9b0 : (t479 == 1) = false := beq_eq_false_iff_ne.mpr c9
      have c9b1 : (t479 != 1) = true := bne_iff_ne.mpr c9
      by_cases c16 : x5_1.length < 17592186044416
      ·
       rw [if_pos c16] at H
       have LMc16 := Aside0.mk c16
       clear c16
       obtain ⟨y488, hy488⟩ : ∃ y_ : List Int, y_ = (x5_1 ++ [1]) := ⟨_, rfl⟩
       replace H : (laws_lwKeep.l0 k1 l0 a1 y488 t479 (wrap64 (x7_1 + 1))) = some r := by first | (rw [hy488]; with_reducible exact H) | (have H2_ := (Option.bind_some _ _).symm.trans H; rw [hy488]; with_reducible exact H2_) | (have H2_ := (Option.bind_some _ _).symm.trans H; with_reducible exact H2_) | with_reducible exact H | (rw [hy488]; exact H) | exact H
       have Ny488 := Aside0.mk hy488
       clear hy488
       have H' := Aside0.mk H
       clear H
       go_wp2_with (first | ((with_reducible refine gate_callee (f := 44) rfl ?_); refine Rgn.gl (some 21) Try.func44 #[.slice A0 l0.length c0, .int .i64 (wrap64 (a1 + x7_1)), .int .i64 2] ?_; (with_reducible refine (laws_lwAt.calls _ _ l0 (wrap64 (a1 + x7_1)) 2 t480 _ ?side1 ?side2 A7.out).mono ?_); (case side1 => exact Rgn.cq (Kd.C_below HR0.out HB.out)); (case side2 => exact HC0.out); rintro e w' ⟨rfl, ⟨nd, rfl⟩⟩; refine ⟨_, rfl, ?_⟩) | ((with_reducible refine gate_builtin (b := .append) (xs := #[.tmp 34, .tmp 36]) rfl ?_); at_builtin; refine Kd.R_append (Kd.int .i64) (w0 := w) w.heap.size rfl (.tmp 34) (.tmp 36) 48 2 (.int .i64 0) 8 rfl Try.underlying48 info2 rfl (by decide) (by omega) u5 x5_1 1 [.int .i64 1] (fun _ => True) (fun _ => False) rfl rfl ?aP (fun _ hk => hk.elim) ?aF ?aO ?aB ?aS ?aL ?_; (case aP => exact rfl); (case aB => exact (Rgn.bq HB.out)); (case aF => exact (fun _ _ => trivial)); (case aO => exact (Rgn.rq HO_5.out)); (case aS => exact (below_size (Rgn.bq HB.out))); (case aL => have := LMc16.out; omega); intro v489 w17 ho hb hg hat; rw [← Ny488.out] at ho; replace HB := Aside0.mk (hb); have HO490 := Aside0.mk (ho); clear HO_5; clear ho hb hg hat))
       go_roundg k1
       case measure => have := HK1.out; omega
       case rel => exact ⟨(y488), (wrap64 (x7_1 + 1)), (by first | rfl | (simp; done) | (simp [*]; done)), H', ⟨by have := HK1.out; omega⟩, ⟨Rgn.rq HO490.out⟩, ⟨Rgn.bq HB.out⟩⟩
      ·
       rw [if_neg c16] at H
       exact absurd H (by simp)
    ·
     rw [if_neg c8] at H
     have c8b0 : (t479 == 0) = false := beq_eq_false_iff_ne.mpr c8
     have c8b1 : (t479 != 0) = true := bne_iff_ne.mpr c8
     by_cases c18 : t479 = 1
     ·
      rw [if_pos c18] at H
      have c18b0 : (t479 == 1) = true := beq_iff_eq.mpr c18
      have c18b1 : (t479 != 1) = false := bne_eq_false_iff_eq.mpr c18
      clear c18
      replace H := Option.bind_eq_some_iff.mp H
      obtain ⟨t491, A190, H⟩ := H
      replace H : (if t491 > 0 then (if x5_1.length < 17592186044416 then (laws_lwKeep.l0 k1 l0 a1 (x5_1 ++ [1]) t479 (wrap64 (x7_1 + 1))) else (none)) else (if x5_1.length < 17592186044416 then (laws_lwKeep.l0 k1 l0 a1 (x5_1 ++ [t480]) t479 (wrap64 (x7_1 + 1))) else (none))) = some r := H
      have A19 := Aside0.mk A190
      clear A190
      by_cases c20 : t491 > 0
      ·
       rw [if_pos c20] at H
       have c20b0 : decide (0 < t491) = true := decide_eq_true c20
       clear c20
       by_cases c21 : x5_1.length < 17592186044416
       ·
        rw [if_pos c21] at H
        have LMc21 := Aside0.mk c21
        clear c21
        obtain ⟨y492, hy492⟩ : ∃ y_ : List Int, y_ = (x5_1 ++ [1]) := ⟨_, rfl⟩
        replace H : (laws_lwKeep.l0 k1 l0 a1 y492 t479 (wrap64 (x7_1 + 1))) = some r := by first | (rw [hy492]; with_reducible exact H) | (have H2_ := (Option.bind_some _ _).symm.trans H; rw [hy492]; with_reducible exact H2_) | (have H2_ := (Option.bind_some _ _).symm.trans H; with_reducible exact H2_) | with_reducible exact H | (rw [hy492]; exact H) | exact H
        have Ny492 := Aside0.mk hy492
        clear hy492
        have H' := Aside0.mk H
        clear H
        go_wp2_with (first | ((with_reducible refine gate_callee (f := 44) rfl ?_); refine Rgn.gl (some 21) Try.func44 #[.slice A0 l0.length c0, .int .i64 (wrap64 (a1 + x7_1)), .int .i64 2] ?_; (with_reducible refine (laws_lwAt.calls _ _ l0 (wrap64 (a1 + x7_1)) 2 t480 _ ?side1 ?side2 A7.out).mono ?_); (case side1 => exact Rgn.cq (Kd.C_below HR0.out HB.out)); (case side2 => exact HC0.out); rintro e w' ⟨rfl, ⟨nd, rfl⟩⟩; refine ⟨_, rfl, ?_⟩) | (go_at_call 44; (with_reducible refine (laws_lwAt.calls _ _ l0 (wrap64 (a1 + x7_1)) 5 t491 _ ?side1 ?side2 A19.out).mono ?_); (case side1 => repeat (first | exact (Kd.C_below HR0.out (Rgn.bq HB.out)) | (with_reducible refine Kd.C_alloc ?_ _) | (with_reducible refine Kd.C_drewN ?_ _) | (with_reducible refine Kd.C_drew ?_))); (case side2 => exact HC0.out); rintro e w' ⟨rfl, ⟨nd, rfl⟩⟩) | ((with_reducible refine gate_builtin (b := .append) (xs := #[.tmp 34, .tmp 36]) rfl ?_); at_builtin; refine Kd.R_append (Kd.int .i64) (w0 := w) w.heap.size rfl (.tmp 34) (.tmp 36) 48 2 (.int .i64 0) 8 rfl Try.underlying48 info2 rfl (by decide) (by omega) u5 x5_1 1 [.int .i64 1] (fun _ => True) (fun _ => False) rfl rfl ?aP (fun _ hk => hk.elim) ?aF ?aO ?aB ?aS ?aL ?_; (case aP => exact rfl); (case aB => exact (Rgn.bq HB.out)); (case aF => exact (fun _ _ => trivial)); (case aO => exact (Rgn.rq HO_5.out)); (case aS => exact (below_size (Rgn.bq HB.out))); (case aL => have := LMc21.out; omega); intro v493 w22 ho hb hg hat; rw [← Ny492.out] at ho; replace HB := Aside0.mk (hb); have HO494 := Aside0.mk (ho); clear HO_5; clear ho hb hg hat))
        go_roundg k1
        case measure => have := HK1.out; omega
        case rel => exact ⟨(y492), (wrap64 (x7_1 + 1)), (by first | rfl | (simp; done) | (simp [*]; done)), H', ⟨by have := HK1.out; omega⟩, ⟨Rgn.rq HO494.out⟩, ⟨Rgn.bq HB.out⟩⟩
       ·
        rw [if_neg c21] at H
        exact absurd H (by simp)
      ·
       rw [if_neg c20] at H
       have c20b0 : decide (0 < t491) = false := decide_eq_false c20
       clear c20
       by_cases c23 : x5_1.length < 17592186044416
       ·
        rw [if_pos c23] at H
        have LMc23 := Aside0.mk c23
        clear c23
        obtain ⟨y495, hy495⟩ : ∃ y_ : List Int, y_ = (x5_1 ++ [t480]) := ⟨_, rfl⟩
        replace H : (laws_lwKeep.l0 k1 l0 a1 y495 t479 (wrap64 (x7_1 + 1))) = some r := by first | (rw [hy495]; with_reducible exact H) | (have H2_ := (Option.bind_some _ _).symm.trans H; rw [hy495]; with_reducible exact H2_) | (have H2_ := (Option.bind_some _ _).symm.trans H; with_reducible exact H2_) | with_reducible exact H | (rw [hy495]; exact H) | exact H
        have Ny495 := Aside0.mk hy495
        clear hy495
        have H' := Aside0.mk H
        clear H
        go_wp2_with (first | ((with_reducible refine gate_callee (f := 44) rfl ?_); refine Rgn.gl (some 21) Try.func44 #[.slice A0 l0.length c0, .int .i64 (wrap64 (a1 + x7_1)), .int .i64 2] ?_; (with_reducible refine (laws_lwAt.calls _ _ l0 (wrap64 (a1 + x7_1)) 2 t480 _ ?side1 ?side2 A7.out).mono ?_); (case side1 => exact Rgn.cq (Kd.C_below HR0.out HB.out)); (case side2 => exact HC0.out); rintro e w' ⟨rfl, ⟨nd, rfl⟩⟩; refine ⟨_, rfl, ?_⟩) | (go_at_call 44; (with_reducible refine (laws_lwAt.calls _ _ l0 (wrap64 (a1 + x7_1)) 5 t491 _ ?side1 ?side2 A19.out).mono ?_); (case side1 => repeat (first | exact (Kd.C_below HR0.out (Rgn.bq HB.out)) | (with_reducible refine Kd.C_alloc ?_ _) | (with_reducible refine Kd.C_drewN ?_ _) | (with_reducible refine Kd.C_drew ?_))); (case side2 => exact HC0.out); rintro e w' ⟨rfl, ⟨nd, rfl⟩⟩) | ((with_reducible refine gate_builtin (b := .append) (xs := #[.tmp 34, .tmp 36]) rfl ?_); at_builtin; refine Kd.R_append (Kd.int .i64) (w0 := w) w.heap.size rfl (.tmp 34) (.tmp 36) 48 2 (.int .i64 0) 8 rfl Try.underlying48 info2 rfl (by decide) (by omega) u5 x5_1 t480 [.int .i64 t480] (fun _ => True) (fun _ => False) rfl rfl ?aP (fun _ hk => hk.elim) ?aF ?aO ?aB ?aS ?aL ?_; (case aP => exact rfl); (case aB => exact (Rgn.bq HB.out)); (case aF => exact (fun _ _ => trivial)); (case aO => exact (Rgn.rq HO_5.out)); (case aS => exact (below_size (Rgn.bq HB.out))); (case aL => have := LMc23.out; omega); intro v496 w24 ho hb hg hat; rw [← Ny495.out] at ho; replace HB := Aside0.mk (hb); have HO497 := Aside0.mk (ho); clear HO_5; clear ho hb hg hat))
        go_roundg k1
        case measure => have := HK1.out; omega
        case rel => exact ⟨(y495), (wrap64 (x7_1 + 1)), (by first | rfl | (simp; done) | (simp [*]; done)), H', ⟨by have := HK1.out; omega⟩, ⟨Rgn.rq HO497.out⟩, ⟨Rgn.bq HB.out⟩⟩
       ·
        rw [if_neg c23] at H
        exact absurd H (by simp)
     ·
      rw [if_neg c18] at H
      have c18b0 : (t479 == 1) = false := beq_eq_false_iff_ne.mpr c18
      have c18b1 : (t479 != 1) = true := bne_iff_ne.mpr c18
      by_cases c25 : x5_1.length < 17592186044416
      ·
       rw [if_pos c25] at H
       have LMc25 := Aside0.mk c25
       clear c25
       obtain ⟨y498, hy498⟩ : ∃ y_ : List Int, y_ = (x5_1 ++ [t480]) := ⟨_, rfl⟩
       replace H : (laws_lwKeep.l0 k1 l0 a1 y498 t479 (wrap64 (x7_1 + 1))) = some r := by first | (rw [hy498]; with_reducible exact H) | (have H2_ := (Option.bind_some _ _).symm.trans H; rw [hy498]; with_reducible exact H2_) | (have H2_ := (Option.bind_some _ _).symm.trans H; with_reducible exact H2_) | with_reducible exact H | (rw [hy498]; exact H) | exact H
       have Ny498 := Aside0.mk hy498
       clear hy498
       have H' := Aside0.mk H
       clear H
       go_wp2_with (first | ((with_reducible refine gate_callee (f := 44) rfl ?_); refine Rgn.gl (some 21) Try.func44 #[.slice A0 l0.length c0, .int .i64 (wrap64 (a1 + x7_1)), .int .i64 2] ?_; (with_reducible refine (laws_lwAt.calls _ _ l0 (wrap64 (a1 + x7_1)) 2 t480 _ ?side1 ?side2 A7.out).mono ?_); (case side1 => exact Rgn.cq (Kd.C_below HR0.out HB.out)); (case side2 => exact HC0.out); rintro e w' ⟨rfl, ⟨nd, rfl⟩⟩; refine ⟨_, rfl, ?_⟩) | ((with_reducible refine gate_builtin (b := .append) (xs := #[.tmp 34, .tmp 36]) rfl ?_); at_builtin; refine Kd.R_append (Kd.int .i64) (w0 := w) w.heap.size rfl (.tmp 34) (.tmp 36) 48 2 (.int .i64 0) 8 rfl Try.underlying48 info2 rfl (by decide) (by omega) u5 x5_1 t480 [.int .i64 t480] (fun _ => True) (fun _ => False) rfl rfl ?aP (fun _ hk => hk.elim) ?aF ?aO ?aB ?aS ?aL ?_; (case aP => exact rfl); (case aB => exact (Rgn.bq HB.out)); (case aF => exact (fun _ _ => trivial)); (case aO => exact (Rgn.rq HO_5.out)); (case aS => exact (below_size (Rgn.bq HB.out))); (case aL => have := LMc25.out; omega); intro v499 w26 ho hb hg hat; rw [← Ny498.out] at ho; replace HB := Aside0.mk (hb); have HO500 := Aside0.mk (ho); clear HO_5; clear ho hb hg hat))
       go_roundg k1
       case measure => have := HK1.out; omega
       case rel => exact ⟨(y498), (wrap64 (x7_1 + 1)), (by first | rfl | (simp; done) | (simp [*]; done)), H', ⟨by have := HK1.out; omega⟩, ⟨Rgn.rq HO500.out⟩, ⟨Rgn.bq HB.out⟩⟩
      ·
       rw [if_neg c25] at H
       exact absurd H (by simp)
   ·
    rw [if_neg c6] at H
    have c6b0 : decide (x7_1 < 40) = false := decide_eq_false c6
    clear c6
    obtain rfl := Option.some.inj H
    go_wp2
    go_ret
    exact ⟨_, by first | rfl | (simp [errW_none, errW_some] <;> rfl) | (simp [*, errW_none, errW_some] <;> rfl), Rgn.rq HO_5.out, Rgn.bq HB.out⟩

end Go.Proofs.Ytdhjhadcadcceaa.PFnDisk
