-- written by a program of this session (wip/src/print2.py)
import Derived.Test.YtdhjhadcadcceaaPFnDiskx0
namespace Go.Proofs.Ytdhjhadcadcceaa.PFnDisk
open Go.RowKit Go.Proofs.YtdhjhadcadcceaaW.PrintWords Go.Proofs.YtdhjhadcadcceaaW.PrintLast Go.Proofs.YtdhjhadcadcceaaW.PrintMore
attribute [local go_sem] max2_int min2_int max_two min_two max_three min_three max_four min_four   -- for this text's walks alone
set_option linter.unusedVariables false
set_option linter.unusedSimpArgs false

/-! ### impl_ValidDisk: function 28 -/
mutual
def impl_ValidDisk.j0 : Nat → Int → Bool → List Int → List (S62) → Option (Bool)
 | 0, _, _, _, _ => none
 | k + 1, x3, x25, x102000, x102001 => if x25 = true then (some false) else (impl_ValidDisk.l0 k x3 x102001 (x102001.length : Int) 0)
def impl_ValidDisk.l0 : Nat → Int → List (S62) → Int → Int → Option (Bool)
 | 0, _, _, _, _ => none
 | k + 1, x3, x27, x28, x29 => if x29 < x28 then (if 0 ≤ x29 then (if x29 < (x27.length : Int) then (if ((rd_T62 x27 x29).f0) < 0 then (some false) else (if ((rd_T62 x27 x29).f0) ≥ (wrap64 (Int.tdiv x3 64)) then (some false) else (if (((rd_T62 x27 x29).f1).length : Int) = 64 then (impl_ValidDisk.l0 k x3 x27 x28 (wrap64 (x29 + 1))) else (some false)))) else (none)) else (none)) else (some true)
end
def impl_ValidDisk.f (k : Nat) (l0_0 : List Int) (l0_1 : List (S62)) : Option (Bool) := if ((l0_0.length : Int) % 64) = 0 then (if (l0_0.length : Int) = 0 then (impl_ValidDisk.j0 k (l0_0.length : Int) true l0_0 l0_1) else (if (l0_0.length : Int) > 131072 then (impl_ValidDisk.j0 k (l0_0.length : Int) true l0_0 l0_1) else (impl_ValidDisk.j0 k (l0_0.length : Int) (decide ((l0_1.length : Int) > 600)) l0_0 l0_1))) else (impl_ValidDisk.j0 k (l0_0.length : Int) true l0_0 l0_1)
set_option maxHeartbeats 8000000 in
set_option maxRecDepth 100000 in
theorem impl_ValidDisk.calls (k : Nat) (A0_0 : Option Addr) (c0_0 : Nat) (l0_0 : List Int) (A0_1 : Option Addr) (c0_1 : Nat) (l0_1 : List (S62)) (r : Bool) (w : World) (hr0_0 : Kd.C (Kd.int .u8) w A0_0 l0_0.length l0_0) (hc0_0 : l0_0.length ≤ c0_0) (hr0_1 : Kd.C k62 w A0_1 l0_1.length l0_1) (hc0_1 : l0_1.length ≤ c0_1) (h : impl_ValidDisk.f k l0_0 l0_1 = some r) :
  Calls Try.prog 28 #[.agg #[.slice A0_0 l0_0.length c0_0, .slice A0_1 l0_1.length c0_1]] w fun e w' => e = .returned (.bool r) ∧ Below w.heap.size w w' := by
 have hu29 := Try.underlying29
 have hu62 := Try.underlying62
 have HR0_0 := Aside0.mk hr0_0
 have HC0_0 := Aside0.mk hc0_0
 clear hr0_0 hc0_0
 have HR0_1 := Aside0.mk hr0_1
 have HC0_1 := Aside0.mk hc0_1
 clear hr0_1 hc0_1
 have HB := Aside0.mk (Below.refl w.heap.size w)
 have H : (if ((l0_0.length : Int) % 64) = 0 then (if (l0_0.length : Int) = 0 then (impl_ValidDisk.j0 k (l0_0.length : Int) true l0_0 l0_1) else (if (l0_0.length : Int) > 131072 then (impl_ValidDisk.j0 k (l0_0.length : Int) true l0_0 l0_1) else (impl_ValidDisk.j0 k (l0_0.length : Int) (decide ((l0_1.length : Int) > 600)) l0_0 l0_1))) else (impl_ValidDisk.j0 k (l0_0.length : Int) true l0_0 l0_1)) = some r := h
 clear h
 have HC2 := Aside0.mk H
 clear H
 go_enter Try.func28, Try.ntmps28
 go_upto_region 2 with (first | ((with_reducible refine gate_dst (N := 1) rfl ?_); (try (refine gate_guard (by rfl) ?_; dsimp only)); refine Rgn.bx 1 #[.slice A0_0 l0_0.length c0_0, .slice A0_1 l0_1.length c0_1] 29 ?_; intro gb101 hg w3 hbox hb; have BK101 := Aside0.mk (hbox); have GW101 := Aside0.mk (Rgn.ge hg HB.out); have GE101 := Aside0.mk (Rgn.ge hg HB.out); replace HB := Aside0.mk (below_step (Rgn.bq HB.out) hb); clear hb hbox hg; obtain ⟨hcz4_0, hcz4_1, hfz4_0, hfz4_1⟩ := Rgn.c2 BK101.out))
 (try simp only [Act.put, List.setIfInBounds_toArray, List.set_cons_zero, List.set_cons_succ])
 go_cut [25] (fun v25 wc => ∃ (kq : Nat) (x25_1 : Bool), v25 = .bool x25_1 ∧ Aside0 (impl_ValidDisk.j0 kq (l0_0.length : Int) x25_1 l0_0 l0_1 = some r) ∧ Aside0 (kq ≤ k) ∧ Aside0 (wc.heap[gb101]? = some (.cells #[(.slice A0_0 l0_0.length c0_0), (.slice A0_1 l0_1.length c0_1)] 29 (0, 0))) ∧ Aside0 (Below w.heap.size w wc))
 case first =>
  have H := HC2.out
  clear HC2
  by_cases c5 : ((l0_0.length : Int) % 64) = 0
  ·
   rw [if_pos c5] at H
   have c5b0 : (((l0_0.length : Int) % 64) == 0) = true := beq_iff_eq.mpr c5
   have c5b1 : (((l0_0.length : Int) % 64) != 0) = false := bne_eq_false_iff_eq.mpr c5
   clear c5
   (first | rw [c5b0] | (simp only [i64_w, i32_w]; rw [c5b0]) | skip)
   by_cases c6 : (l0_0.length : Int) = 0
   ·
    rw [if_pos c6] at H
    have c6b0 : ((l0_0.length : Int) == 0) = true := beq_iff_eq.mpr c6
    have c6b1 : ((l0_0.length : Int) != 0) = false := bne_eq_false_iff_eq.mpr c6
    clear c6
    have H' := Aside0.mk H
    clear H
    go_wp2
    go_meet
    case rel => exact ⟨_, (true), (by first | rfl | (simp; done) | (simp [*]; done)), H', ⟨by first | omega | exact Nat.le_refl _⟩, ⟨Rgn.kb BK101.out⟩, ⟨Rgn.bq HB.out⟩⟩
   ·
    rw [if_neg c6] at H
    have c6b0 : ((l0_0.length : Int) == 0) = false := beq_eq_false_iff_ne.mpr c6
    have c6b1 : ((l0_0.length : Int) != 0) = true := bne_iff_ne.mpr c6
    have c6b2 : ¬ (l0_0 = []) := fun h_ => c6 (by rw [h_]; rfl)
    by_cases c7 : (l0_0.length : Int) > 131072
    ·
     rw [if_pos c7] at H
     have c7b0 : decide (131072 < (l0_0.length : Int)) = true := decide_eq_true c7
     have c7b1 : decide (131072 < l0_0.length) = true := decide_eq_true (by omega)
     clear c7
     have H' := Aside0.mk H
     clear H
     go_wp2
     go_meet
     case rel => exact ⟨_, (true), (by first | rfl | (simp; done) | (simp [*]; done)), H', ⟨by first | omega | exact Nat.le_refl _⟩, ⟨Rgn.kb BK101.out⟩, ⟨Rgn.bq HB.out⟩⟩
    ·
     rw [if_neg c7] at H
     have c7b0 : decide (131072 < (l0_0.length : Int)) = false := decide_eq_false c7
     have c7b1 : decide (131072 < l0_0.length) = false := decide_eq_false (by omega)
     clear c7
     have H' := Aside0.mk H
     clear H
     have hcz8_0 := Rgn.cz0 BK101.out
     have hcz8_1 := Rgn.cz1 BK101.out
     have hfz8_0 := blk_frozen BK101.out 0
     have hfz8_1 := blk_frozen BK101.out 1
     go_wp2
     go_meet
     case rel => exact ⟨_, (decide ((l0_1.length : Int) > 600)), (by first | rfl | (simp; done) | (simp [*]; done)), H', ⟨by first | omega | exact Nat.le_refl _⟩, ⟨Rgn.kb BK101.out⟩, ⟨Rgn.bq HB.out⟩⟩
  ·
   rw [if_neg c5] at H
   have c5b0 : (((l0_0.length : Int) % 64) == 0) = false := beq_eq_false_iff_ne.mpr c5
   have c5b1 : (((l0_0.length : Int) % 64) != 0) = true := bne_iff_ne.mpr c5
   (first | rw [c5b0] | (simp only [i64_w, i32_w]; rw [c5b0]) | skip)
   have H' := Aside0.mk H
   clear H
   go_wp2
   go_meet
   case rel => exact ⟨_, (true), (by first | rfl | (simp; done) | (simp [*]; done)), H', ⟨by first | omega | exact Nat.le_refl _⟩, ⟨Rgn.kb BK101.out⟩, ⟨Rgn.bq HB.out⟩⟩
 case rest =>
  clear HC2
  try clear c2
  try clear p2
  try clear c5
  try clear c5b0
  try clear c5b1
  try clear c6
  try clear c6b0
  try clear c6b1
  try clear c6b2
  try clear c7
  try clear c7b0
  try clear c7b1
  try clear hcz4_0 hcz4_1
  try clear hcz8_0 hcz8_1
  try clear hfz4_0 hfz4_1
  try clear hfz8_0 hfz8_1
  obtain ⟨kq, x25_1, rfl, HA, HJ1, BK101, HB⟩ := hcut
  cases kq with
  | zero => exact absurd HA.out (by simp [impl_ValidDisk.j0])
  | succ kj1 =>
   have H := HA.out
   clear HA
   simp only [impl_ValidDisk.j0] at H
   by_cases c9 : x25_1 = true
   ·
    subst c9
    have H1 : (some false) = some r := by rw [if_pos rfl] at H; exact H
    clear H
    have H := H1
    clear H1
    obtain rfl := Option.some.inj H
    go_wp2
    go_ret
    exact ⟨by first | rfl | (simp [errW_none, errW_some] <;> rfl) | (simp [*, errW_none, errW_some] <;> rfl), Rgn.bq HB.out⟩
   ·
    replace c9 := Bool.eq_false_iff.mpr c9
    subst c9
    have H1 : (impl_ValidDisk.l0 kj1 (l0_0.length : Int) l0_1 (l0_1.length : Int) 0) = some r := by rw [if_neg (show ¬ (false = true) by decide)] at H; exact H
    clear H
    have H := H1
    clear H1
    have H' := Aside0.mk H
    clear H
    have hcz10_0 := Rgn.cz0 BK101.out
    have hcz10_1 := Rgn.cz1 BK101.out
    have hfz10_0 := blk_frozen BK101.out 0
    have hfz10_1 := blk_frozen BK101.out 1
    go_wp2
    go_loopg [29] kj1 (fun kq v29 w' => ∃ (x29_2 : Int), v29 = .int .i64 x29_2 ∧ Aside0 (impl_ValidDisk.l0 kq (l0_0.length : Int) l0_1 (l0_1.length : Int) x29_2 = some r) ∧ Aside0 (kq ≤ kj1) ∧ Aside0 (w'.heap[gb101]? = some (.cells #[(.slice A0_0 l0_0.length c0_0), (.slice A0_1 l0_1.length c0_1)] 29 (0, 0))) ∧ Aside0 (Below w.heap.size w w'))
    case atStart => exact ⟨(0), (by first | rfl | (simp; done) | (simp [*]; done)), H', ⟨Nat.le_refl _⟩, ⟨Rgn.kb BK101.out⟩, ⟨Rgn.bq HB.out⟩⟩
    case round =>
     clear H'
     try clear c2
     try clear p2
     try clear c5
     try clear c5b0
     try clear c5b1
     try clear c6
     try clear c6b0
     try clear c6b1
     try clear c6b2
     try clear c7
     try clear c7b0
     try clear c7b1
     try clear c9
     try clear hcz10_0 hcz10_1
     try clear hcz4_0 hcz4_1
     try clear hcz8_0 hcz8_1
     try clear hfz10_0 hfz10_1
     try clear hfz4_0 hfz4_1
     try clear hfz8_0 hfz8_1
     try clear p2
     obtain ⟨x29_2, rfl, HA, HK2, BK101, HB⟩ := hrel
     cases gk with
     | zero => exact absurd HA.out (by simp [impl_ValidDisk.l0])
     | succ k2 =>
      have H := HA.out
      clear HA
      simp only [impl_ValidDisk.l0] at H
      by_cases c11 : x29_2 < (l0_1.length : Int)
      ·
       rw [if_pos c11] at H
       have c11b0 : decide (x29_2 < (l0_1.length : Int)) = true := decide_eq_true c11
       clear c11
       by_cases c12 : 0 ≤ x29_2
       ·
        rw [if_pos c12] at H
        have c12b0 : decide (0 ≤ x29_2) = true := decide_eq_true c12
        clear c12
        by_cases c13 : x29_2 < (l0_1.length : Int)
        ·
         rw [if_pos c13] at H
         have c13b0 : decide (x29_2 < (l0_1.length : Int)) = true := decide_eq_true c13
         clear c13
         by_cases c14 : ((rd_T62 l0_1 x29_2).f0) < 0
         ·
          rw [if_pos c14] at H
          have c14b0 : decide (((rd_T62 l0_1 x29_2).f0) < 0) = true := decide_eq_true c14
          clear c14
          obtain rfl := Option.some.inj H
          have p102 : 0 ≤ (x29_2 : Int) := of_decide_eq_true (by first | (with_reducible assumption) | assumption)
          have q102 : x29_2 < (l0_1.length : Int) := of_decide_eq_true (by first | (with_reducible assumption) | assumption)
          obtain ⟨ad102, A102_1, c102_1, e102, hx102_0, hx102_1, hl102_1, hi102_1⟩ := at_T62 HR0_1.out x29_2 p102 q102
          cases e102
          replace hx102_0 := Rgn.hx HB.out hx102_0
          replace hx102_1 := Rgn.hx HB.out hx102_1
          have HR102_1 := Aside0.mk hi102_1
          have HC102_1 := Aside0.mk hl102_1
          clear hi102_1 hl102_1
          replace p102 := eq_true p102
          replace q102 := eq_true q102
          go_wp2_with (first | ((with_reducible refine gate_dst (N := 5) rfl ?_); (try (refine gate_guard (by rfl) ?_; dsimp only)); refine Rgn.bx 5 #[.int .i64 0, .slice none 0 0] 62 ?_; intro gb103 hg w15 hbox hb; have BK103 := Aside0.mk (hbox); have GW103 := Aside0.mk (Rgn.ge hg HB.out); have GE103 := Aside0.mk (Rgn.ge hg HB.out); replace HB := Aside0.mk (below_step (Rgn.bq HB.out) hb); have NB101_103 := Aside0.mk (Rgn.nl hg BK101.out); have NB103_101 := Aside0.mk (Rgn.ng hg BK101.out); replace BK101 := Aside0.mk (Rgn.bb BK101.out hb); clear hb hbox hg; have hnb16 := NB103_101.out; have hnc16 := NB101_103.out; obtain ⟨hcz17_0, hcz17_1, hfz17_0, hfz17_1⟩ := Rgn.c2 BK103.out))
          go_ret
          exact ⟨by first | rfl | (simp [errW_none, errW_some] <;> rfl) | (simp [*, errW_none, errW_some] <;> rfl), Rgn.bq HB.out⟩
         ·
          rw [if_neg c14] at H
          have c14b0 : decide (((rd_T62 l0_1 x29_2).f0) < 0) = false := decide_eq_false c14
          clear c14
          by_cases c18 : ((rd_T62 l0_1 x29_2).f0) ≥ (wrap64 (Int.tdiv (l0_0.length : Int) 64))
          ·
           rw [if_pos c18] at H
           have c18b0 : decide ((wrap64 (Int.tdiv (l0_0.length : Int) 64)) ≤ ((rd_T62 l0_1 x29_2).f0)) = true := decide_eq_true c18
           have c18b9 : decide ((wrap64 ((l0_0.length : Int) / 64)) ≤ ((rd_T62 l0_1 x29_2).f0)) = true := by rw [← Int.tdiv_eq_ediv_of_nonneg (Int.natCast_nonneg _)]; exact c18b0
           clear c18
           obtain rfl := Option.some.inj H
           have p102 : 0 ≤ (x29_2 : Int) := of_decide_eq_true (by first | (with_reducible assumption) | assumption)
           have q102 : x29_2 < (l0_1.length : Int) := of_decide_eq_true (by first | (with_reducible assumption) | assumption)
           obtain ⟨ad102, A102_1, c102_1, e102, hx102_0, hx102_1, hl102_1, hi102_1⟩ := at_T62 HR0_1.out x29_2 p102 q102
           cases e102
           replace hx102_0 := Rgn.hx HB.out hx102_0
           replace hx102_1 := Rgn.hx HB.out hx102_1
           have HR102_1 := Aside0.mk hi102_1
           have HC102_1 := Aside0.mk hl102_1
           clear hi102_1 hl102_1
           replace p102 := eq_true p102
           replace q102 := eq_true q102
           go_wp2_with (first | ((with_reducible refine gate_dst (N := 5) rfl ?_); (try (refine gate_guard (by rfl) ?_; dsimp only)); refine Rgn.bx 5 #[.int .i64 0, .slice none 0 0] 62 ?_; intro gb103 hg w19 hbox hb; have BK103 := Aside0.mk (hbox); have GW103 := Aside0.mk (Rgn.ge hg HB.out); have GE103 := Aside0.mk (Rgn.ge hg HB.out); replace HB := Aside0.mk (below_step (Rgn.bq HB.out) hb); have NB101_103 := Aside0.mk (Rgn.nl hg BK101.out); have NB103_101 := Aside0.mk (Rgn.ng hg BK101.out); replace BK101 := Aside0.mk (Rgn.bb BK101.out hb); clear hb hbox hg; have hnb20 := NB103_101.out; have hnc20 := NB101_103.out; obtain ⟨hcz21_0, hcz21_1, hfz21_0, hfz21_1⟩ := Rgn.c2 BK103.out))
           go_ret
           exact ⟨by first | rfl | (simp [errW_none, errW_some] <;> rfl) | (simp [*, errW_none, errW_some] <;> rfl), Rgn.bq HB.out⟩
          ·
           rw [if_neg c18] at H
           have c18b0 : decide ((wrap64 (Int.tdiv (l0_0.length : Int) 64)) ≤ ((rd_T62 l0_1 x29_2).f0)) = false := decide_eq_false c18
           have c18b9 : decide ((wrap64 ((l0_0.length : Int) / 64)) ≤ ((rd_T62 l0_1 x29_2).f0)) = false := by rw [← Int.tdiv_eq_ediv_of_nonneg (Int.natCast_nonneg _)]; exact c18b0
           clear c18
           by_cases c22 : (((rd_T62 l0_1 x29_2).f1).length : Int) = 64
           ·
            rw [if_pos c22] at H
            have c22b0 : ((((rd_T62 l0_1 x29_2).f1).length : Int) == 64) = true := beq_iff_eq.mpr c22
            have c22b1 : ((((rd_T62 l0_1 x29_2).f1).length : Int) != 64) = false := bne_eq_false_iff_eq.mpr c22
            clear c22
            have H' := Aside0.mk H
            clear H
            have p102 : 0 ≤ (x29_2 : Int) := of_decide_eq_true (by first | (with_reducible assumption) | assumption)
            have q102 : x29_2 < (l0_1.length : Int) := of_decide_eq_true (by first | (with_reducible assumption) | assumption)
            obtain ⟨ad102, A102_1, c102_1, e102, hx102_0, hx102_1, hl102_1, hi102_1⟩ := at_T62 HR0_1.out x29_2 p102 q102
            cases e102
            replace hx102_0 := Rgn.hx HB.out hx102_0
            replace hx102_1 := Rgn.hx HB.out hx102_1
            have HR102_1 := Aside0.mk hi102_1
            have HC102_1 := Aside0.mk hl102_1
            clear hi102_1 hl102_1
            replace p102 := eq_true p102
            replace q102 := eq_true q102
            go_wp2_with (first | ((with_reducible refine gate_dst (N := 5) rfl ?_); (try (refine gate_guard (by rfl) ?_; dsimp only)); refine Rgn.bx 5 #[.int .i64 0, .slice none 0 0] 62 ?_; intro gb103 hg w23 hbox hb; have BK103 := Aside0.mk (hbox); have GW103 := Aside0.mk (Rgn.ge hg HB.out); have GE103 := Aside0.mk (Rgn.ge hg HB.out); replace HB := Aside0.mk (below_step (Rgn.bq HB.out) hb); have NB101_103 := Aside0.mk (Rgn.nl hg BK101.out); have NB103_101 := Aside0.mk (Rgn.ng hg BK101.out); replace BK101 := Aside0.mk (Rgn.bb BK101.out hb); clear hb hbox hg; have hnb24 := NB103_101.out; have hnc24 := NB101_103.out; obtain ⟨hcz25_0, hcz25_1, hfz25_0, hfz25_1⟩ := Rgn.c2 BK103.out))
            go_roundg k2
            case measure => have := HJ1.out; have := HK2.out; omega
            case rel => exact ⟨(wrap64 (x29_2 + 1)), (by first | rfl | (simp; done) | (simp [*]; done)), H', ⟨by have := HJ1.out; have := HK2.out; omega⟩, ⟨Rgn.kf BK101.out⟩, ⟨Rgn.bq HB.out⟩⟩
           ·
            rw [if_neg c22] at H
            have c22b0 : ((((rd_T62 l0_1 x29_2).f1).length : Int) == 64) = false := beq_eq_false_iff_ne.mpr c22
            have c22b1 : ((((rd_T62 l0_1 x29_2).f1).length : Int) != 64) = true := bne_iff_ne.mpr c22
            obtain rfl := Option.some.inj H
            have p102 : 0 ≤ (x29_2 : Int) := of_decide_eq_true (by first | (with_reducible assumption) | assumption)
            have q102 : x29_2 < (l0_1.length : Int) := of_decide_eq_true (by first | (with_reducible assumption) | assumption)
            obtain ⟨ad102, A102_1, c102_1, e102, hx102_0, hx102_1, hl102_1, hi102_1⟩ := at_T62 HR0_1.out x29_2 p102 q102
            cases e102
            replace hx102_0 := Rgn.hx HB.out hx102_0
            replace hx102_1 := Rgn.hx HB.out hx102_1
            have HR102_1 := Aside0.mk hi102_1
            have HC102_1 := Aside0.mk hl102_1
            clear hi102_1 hl102_1
            replace p102 := eq_true p102
            replace q102 := eq_true q102
            go_wp2_with (first | ((with_reducible refine gate_dst (N := 5) rfl ?_); (try (refine gate_guard (by rfl) ?_; dsimp only)); refine Rgn.bx 5 #[.int .i64 0, .slice none 0 0] 62 ?_; intro gb103 hg w26 hbox hb; have BK103 := Aside0.mk (hbox); have GW103 := Aside0.mk (Rgn.ge hg HB.out); have GE103 := Aside0.mk (Rgn.ge hg HB.out); replace HB := Aside0.mk (below_step (Rgn.bq HB.out) hb); have NB101_103 := Aside0.mk (Rgn.nl hg BK101.out); have NB103_101 := Aside0.mk (Rgn.ng hg BK101.out); replace BK101 := Aside0.mk (Rgn.bb BK101.out hb); clear hb hbox hg; have hnb27 := NB103_101.out; have hnc27 := NB101_103.out; obtain ⟨hcz28_0, hcz28_1, hfz28_0, hfz28_1⟩ := Rgn.c2 BK103.out))
            go_ret
            exact ⟨by first | rfl | (simp [errW_none, errW_some] <;> rfl) | (simp [*, errW_none, errW_some] <;> rfl), Rgn.bq HB.out⟩
        ·
         rw [if_neg c13] at H
         exact absurd H (by simp)
       ·
        rw [if_neg c12] at H
        exact absurd H (by simp)
      ·
       rw [if_neg c11] at H
       have c11b0 : decide (x29_2 < (l0_1.length : Int)) = false := decide_eq_false c11
       clear c11
       obtain rfl := Option.some.inj H
       go_wp2
       go_ret
       exact ⟨by first | rfl | (simp [errW_none, errW_some] <;> rfl) | (simp [*, errW_none, errW_some] <;> rfl), Rgn.bq HB.out⟩

/-! ### impl_nb: function 73 -/
def impl_nb.f (l0_0 : List Int) (l0_1 : List (S62)) : Option (Int) := some (wrap64 ((l0_0.length : Int) / 64))
set_option maxHeartbeats 8000000 in
set_option maxRecDepth 100000 in
theorem impl_nb.calls (A0_0 : Option Addr) (c0_0 : Nat) (l0_0 : List Int) (A0_1 : Option Addr) (c0_1 : Nat) (l0_1 : List (S62)) (r : Int) (w : World) (hr0_0 : Kd.C (Kd.int .u8) w A0_0 l0_0.length l0_0) (hc0_0 : l0_0.length ≤ c0_0) (hr0_1 : Kd.C k62 w A0_1 l0_1.length l0_1) (hc0_1 : l0_1.length ≤ c0_1) (h : impl_nb.f l0_0 l0_1 = some r) :
  Calls Try.prog 73 #[.agg #[.slice A0_0 l0_0.length c0_0, .slice A0_1 l0_1.length c0_1]] w fun e w' => e = .returned (.int .i64 r) ∧ Below w.heap.size w w' := by
 have hu29 := Try.underlying29
 have HR0_0 := Aside0.mk hr0_0
 have HC0_0 := Aside0.mk hc0_0
 clear hr0_0 hc0_0
 have HR0_1 := Aside0.mk hr0_1
 have HC0_1 := Aside0.mk hc0_1
 clear hr0_1 hc0_1
 have HB := Aside0.mk (Below.refl w.heap.size w)
 have H : (some (wrap64 ((l0_0.length : Int) / 64))) = some r := h
 clear h
 obtain rfl := Option.some.inj H
 go_enter Try.func73, Try.ntmps73
 go_wp2_with (first | ((with_reducible refine gate_dst (N := 1) rfl ?_); refine Rgn.bx 1 #[.slice A0_0 l0_0.length c0_0, .slice A0_1 l0_1.length c0_1] 29 ?_; intro gb104 hg w2 hbox hb; have BK104 := Aside0.mk (hbox); have GW104 := Aside0.mk (Rgn.ge hg HB.out); have GE104 := Aside0.mk (Rgn.ge hg HB.out); replace HB := Aside0.mk (below_step (Rgn.bq HB.out) hb); clear hb hbox hg; obtain ⟨hcz3_0, hcz3_1, hfz3_0, hfz3_1⟩ := Rgn.c2 BK104.out))
 go_ret
 exact ⟨by first | rfl | (simp [errW_none, errW_some] <;> rfl) | (simp [*, errW_none, errW_some] <;> rfl), Rgn.bq HB.out⟩

/-! ### impl_cp: function 77 -/
def impl_cp.f (l0 : List Int) : Option (List Int) := (some (([] : List Int) : List Int)).bind fun y105 => (if y105.length + l0.length < 140737488355328 then (some (y105 ++ l0)) else (none))
set_option maxHeartbeats 8000000 in
set_option maxRecDepth 100000 in
theorem impl_cp.calls (A0 : Option Addr) (c0 : Nat) (l0 : List Int) (r : List Int) (w : World) (hr0 : Kd.C (Kd.int .u8) w A0 l0.length l0) (hc0 : l0.length ≤ c0) (h : impl_cp.f l0 = some r) :
  Calls Try.prog 77 #[.slice A0 l0.length c0] w fun e w' => ∃ v0_ : Value, e = .returned (v0_) ∧ Kd.R (Kd.int .u8) 5 w' w.heap.size (fun _ => True) v0_ r ∧ Below w.heap.size w w' := by
 have HR0 := Aside0.mk hr0
 have HC0 := Aside0.mk hc0
 clear hr0 hc0
 have HB := Aside0.mk (Below.refl w.heap.size w)
 have H : ((some (([] : List Int) : List Int)).bind fun y105 => (if y105.length + l0.length < 140737488355328 then (some (y105 ++ l0)) else (none))) = some r := h
 clear h
 obtain ⟨y105, hy105⟩ : ∃ y_ : List Int, y_ = (([] : List Int)) := ⟨_, rfl⟩
 replace H : (if y105.length + l0.length < 140737488355328 then (some (y105 ++ l0)) else (none)) = some r := by first | (rw [hy105]; with_reducible exact H) | (have H2_ := (Option.bind_some _ _).symm.trans H; rw [hy105]; with_reducible exact H2_) | (have H2_ := (Option.bind_some _ _).symm.trans H; with_reducible exact H2_) | with_reducible exact H | (rw [hy105]; exact H) | exact H
 have Ny105 := Aside0.mk hy105
 clear hy105
 by_cases c2 : y105.length + l0.length < 140737488355328
 ·
  rw [if_pos c2] at H
  have LMc2 := Aside0.mk c2
  clear c2
  obtain ⟨y108, hy108⟩ : ∃ y_ : List Int, y_ = (y105 ++ l0) := ⟨_, rfl⟩
  replace H : (some y108) = some r := by first | (rw [hy108]; with_reducible exact H) | (have H2_ := (Option.bind_some _ _).symm.trans H; rw [hy108]; with_reducible exact H2_) | (have H2_ := (Option.bind_some _ _).symm.trans H; with_reducible exact H2_) | with_reducible exact H | (rw [hy108]; exact H) | exact H
  have Ny108 := Aside0.mk hy108
  clear hy108
  obtain rfl := Option.some.inj H
  go_enter Try.func77, Try.ntmps77
  go_wp2_with (first | ((with_reducible refine gate_dst (N := 3) rfl ?_); refine Kd.R_lit (Kd.int .u8) _ 5 ?hg (N := 3) ?hd (xs := ([] : List Int)) (inner := []) (ok := fun _ => True) (okp := fun _ => True) ?hr ?hp (fun _ hk => hk) trivial (Below.refl _ _) (Nat.le_refl _) (by simp) ?_; (case hd => rfl); (case hg => rfl); (case hr => first | (go_simp; done) | (go_simp; rfl)); (case hp => exact (Reps.none _ _)); intro v106 w3 ho4 hb hg_ hnew_; clear hg_ hnew_; (first | rw [← Ny105.out] at ho4 | (simp only [Int.reduceToNat] at ho4; rw [← Ny105.out] at ho4)); have HO107 := Aside0.mk (Kd.R_lower ho4 (below_size (Rgn.bq HB.out))); replace HB := Aside0.mk (below_step (Rgn.bq HB.out) hb); clear hb ho4) | ((with_reducible refine gate_builtin (b := .append) (xs := #[.tmp 3, .tmp 4]) rfl ?_); at_builtin; refine Kd.R_append_rows (Kd.int .u8) (w0 := w) w.heap.size rfl (.tmp 3) (.tmp 4) 22 5 (.int .u8 0) 1 rfl Try.underlying22 info5 rfl (by decide) (by omega) v106 y105 l0 _ _ _ (fun _ => True) (fun _ => False) rfl rfl ?aO ?aR (fun _ _ h => h) (fun _ h => h.elim) ?aF ?aB ?aS ?aL ?_; (case aR => exact Rgn.cq (Kd.C_below HR0.out HB.out)); (case aB => exact (Rgn.bq HB.out)); (case aF => exact (fun _ _ => trivial)); (case aO => exact (Rgn.rq HO107.out)); (case aS => exact (below_size (Rgn.bq HB.out))); (case aL => have := LMc2.out; omega); intro v109 w5 ho hb hg hat; rw [← Ny108.out] at ho; replace HB := Aside0.mk (hb); have HO110 := Aside0.mk (ho); clear HO107; clear ho hb hg hat))
  go_ret
  exact ⟨_, by first | rfl | (simp [errW_none, errW_some] <;> rfl) | (simp [*, errW_none, errW_some] <;> rfl), Rgn.rq HO110.out, Rgn.bq HB.out⟩
 ·
  rw [if_neg c2] at H
  exact absurd H (by simp)

/-! ### impl_rd: function 74 -/
def impl_rd.l0 : Nat → Int → Int → List Int → List (S62) → Option (List Int)
 | 0, _, _, _, _ => none
 | k + 1, x1, x5, x112000, x112001 => if x5 ≥ 0 then (if 0 ≤ x5 then (if x5 < (x112001.length : Int) then (if ((rd_T62 x112001 x5).f0) = x1 then ((impl_cp.f ((rd_T62 x112001 x5).f1)).bind fun t114 => (some t114)) else (impl_rd.l0 k x1 (wrap64 (x5 - 1)) x112000 x112001)) else (none)) else (none)) else (if 0 ≤ (wrap64 (x1 * 64)) then (if (wrap64 (x1 * 64)) ≤ (wrap64 ((wrap64 (x1 * 64)) + 64)) then (if (wrap64 ((wrap64 (x1 * 64)) + 64)) ≤ (x112000.length : Int) then ((impl_cp.f ((x112000.take ((wrap64 ((wrap64 (x1 * 64)) + 64)) : Int).toNat).drop ((wrap64 (x1 * 64)) : Int).toNat)).bind fun t118 => (some t118)) else (none)) else (none)) else (none))
def impl_rd.f (k : Nat) (l0_0 : List Int) (l0_1 : List (S62)) (a1 : Int) : Option (List Int) := impl_rd.l0 k a1 (wrap64 ((l0_1.length : Int) - 1)) l0_0 l0_1
set_option maxHeartbeats 8000000 in
set_option maxRecDepth 100000 in
theorem impl_rd.calls (k : Nat) (A0_0 : Option Addr) (c0_0 : Nat) (l0_0 : List Int) (A0_1 : Option Addr) (c0_1 : Nat) (l0_1 : List (S62)) (a1 : Int) (r : List Int) (w : World) (hr0_0 : Kd.C (Kd.int .u8) w A0_0 l0_0.length l0_0) (hc0_0 : l0_0.length ≤ c0_0) (hr0_1 : Kd.C k62 w A0_1 l0_1.length l0_1) (hc0_1 : l0_1.length ≤ c0_1) (h : impl_rd.f k l0_0 l0_1 a1 = some r) :
  Calls Try.prog 74 #[.agg #[.slice A0_0 l0_0.length c0_0, .slice A0_1 l0_1.length c0_1], .int .i64 a1] w fun e w' => ∃ v0_ : Value, e = .returned (v0_) ∧ Kd.R (Kd.int .u8) 5 w' w.heap.size (fun _ => True) v0_ r ∧ Below w.heap.size w w' := by
 have hu29 := Try.underlying29
 have HR0_0 := Aside0.mk hr0_0
 have HC0_0 := Aside0.mk hc0_0
 clear hr0_0 hc0_0
 have HR0_1 := Aside0.mk hr0_1
 have HC0_1 := Aside0.mk hc0_1
 clear hr0_1 hc0_1
 have HB := Aside0.mk (Below.refl w.heap.size w)
 have H : (impl_rd.l0 k a1 (wrap64 ((l0_1.length : Int) - 1)) l0_0 l0_1) = some r := h
 clear h
 have H' := Aside0.mk H
 clear H
 go_enter Try.func74, Try.ntmps74
 go_wp2_with (first | ((with_reducible refine gate_dst (N := 2) rfl ?_); refine Rgn.bx 2 #[.slice A0_0 l0_0.length c0_0, .slice A0_1 l0_1.length c0_1] 29 ?_; intro gb111 hg w3 hbox hb; have BK111 := Aside0.mk (hbox); have GW111 := Aside0.mk (Rgn.ge hg HB.out); have GE111 := Aside0.mk (Rgn.ge hg HB.out); replace HB := Aside0.mk (below_step (Rgn.bq HB.out) hb); clear hb hbox hg; obtain ⟨hcz4_0, hcz4_1, hfz4_0, hfz4_1⟩ := Rgn.c2 BK111.out))
 go_loopg [5] k (fun kq v5 w' => ∃ (x5_1 : Int), v5 = .int .i64 x5_1 ∧ Aside0 (impl_rd.l0 kq a1 x5_1 l0_0 l0_1 = some r) ∧ Aside0 (kq ≤ k) ∧ Aside0 (w'.heap[gb111]? = some (.cells #[(.slice A0_0 l0_0.length c0_0), (.slice A0_1 l0_1.length c0_1)] 29 (0, 0))) ∧ Aside0 (Below w.heap.size w w'))
 case atStart => exact ⟨(wrap64 ((l0_1.length : Int) - 1)), (by first | rfl | (simp; done) | (simp [*]; done)), H', ⟨Nat.le_refl _⟩, ⟨Rgn.kb BK111.out⟩, ⟨Rgn.bq HB.out⟩⟩
 case round =>
  clear H'
  try clear p2
  try clear hcz4_0 hcz4_1 hfz4_0 hfz4_1
  obtain ⟨x5_1, rfl, HA, HK1, BK111, HB⟩ := hrel
  cases gk with
  | zero => exact absurd HA.out (by simp [impl_rd.l0])
  | succ k1 =>
   have H := HA.out
   clear HA
   simp only [impl_rd.l0] at H
   by_cases c5 : x5_1 ≥ 0
   ·
    rw [if_pos c5] at H
    have c5b0 : decide (0 ≤ x5_1) = true := decide_eq_true c5
    clear c5
    by_cases c6 : 0 ≤ x5_1
    ·
     rw [if_pos c6] at H
     have c6b0 : decide (0 ≤ x5_1) = true := decide_eq_true c6
     clear c6
     by_cases c7 : x5_1 < (l0_1.length : Int)
     ·
      rw [if_pos c7] at H
      have c7b0 : decide (x5_1 < (l0_1.length : Int)) = true := decide_eq_true c7
      clear c7
      by_cases c8 : ((rd_T62 l0_1 x5_1).f0) = a1
      ·
       rw [if_pos c8] at H
       have c8b0 : (((rd_T62 l0_1 x5_1).f0) == a1) = true := beq_iff_eq.mpr c8
       have c8b1 : (((rd_T62 l0_1 x5_1).f0) != a1) = false := bne_eq_false_iff_eq.mpr c8
       clear c8
       replace H := Option.bind_eq_some_iff.mp H
       obtain ⟨t114, A90, H⟩ := H
       replace H : (some t114) = some r := H
       have A9 := Aside0.mk A90
       clear A90
       obtain rfl := Option.some.inj H
       have hcz10_0 := Rgn.cz0 BK111.out
       have hcz10_1 := Rgn.cz1 BK111.out
       have hfz10_0 := blk_frozen BK111.out 0
       have hfz10_1 := blk_frozen BK111.out 1
       have p112 : 0 ≤ (x5_1 : Int) := of_decide_eq_true (by first | (with_reducible assumption) | assumption)
       have q112 : x5_1 < (l0_1.length : Int) := of_decide_eq_true (by first | (with_reducible assumption) | assumption)
       obtain ⟨ad112, A112_1, c112_1, e112, hx112_0, hx112_1, hl112_1, hi112_1⟩ := at_T62 HR0_1.out x5_1 p112 q112
       cases e112
       replace hx112_0 := Rgn.hx HB.out hx112_0
       replace hx112_1 := Rgn.hx HB.out hx112_1
       have HR112_1 := Aside0.mk hi112_1
       have HC112_1 := Aside0.mk hl112_1
       clear hi112_1 hl112_1
       replace p112 := eq_true p112
       replace q112 := eq_true q112
       have p113 : 0 ≤ (x5_1 : Int) := of_decide_eq_true (by first | (with_reducible assumption) | assumption)
       have q113 : x5_1 < (l0_1.length : Int) := of_decide_eq_true (by first | (with_reducible assumption) | assumption)
       obtain ⟨ad113, A113_1, c113_1, e113, hx113_0, hx113_1, hl113_1, hi113_1⟩ := at_T62 HR0_1.out x5_1 p113 q113
       obtain rfl : ad112 = ad113 := (by injection e113)
       replace hx113_0 := Rgn.hx HB.out hx113_0
       replace hx113_1 := Rgn.hx HB.out hx113_1
       have HR113_1 := Aside0.mk hi113_1
       have HC113_1 := Aside0.mk hl113_1
       clear hi113_1 hl113_1
       replace p113 := eq_true p113
       replace q113 := eq_true q113
       have ea_ := Option.some.inj (hx112_1.symm.trans hx113_1)
       injection ea_ with ea_ en_ ec_
       subst ea_
       subst ec_
       clear en_
       go_wp2_with (first | ((with_reducible refine gate_callee (f := 77) rfl ?_); refine Rgn.gl (some 28) Try.func77 #[.slice A112_1 ((rd_T62 l0_1 x5_1).f1).length c112_1] ?_; (with_reducible refine (impl_cp.calls _ _ ((rd_T62 l0_1 x5_1).f1) t114 _ ?side1 ?side2 A9.out).mono ?_); (case side1 => exact Rgn.cq (Kd.C_below HR113_1.out HB.out)); (case side2 => exact HC113_1.out); rintro e w11 ⟨v115, rfl, ho0, hb⟩; refine ⟨_, rfl, ?_⟩; have HO116 := Aside0.mk (Kd.R_lower ho0 (below_size (Rgn.bq HB.out))); replace BK111 := Aside0.mk (Rgn.bb BK111.out hb); replace HB := Aside0.mk (below_step (Rgn.bq HB.out) hb); (try clear hb); (try clear ho0)))
       go_ret
       exact ⟨_, by first | rfl | (simp [errW_none, errW_some] <;> rfl) | (simp [*, errW_none, errW_some] <;> rfl), Rgn.rq HO116.out, Rgn.bq HB.out⟩
      ·
       rw [if_neg c8] at H
       have c8b0 : (((rd_T62 l0_1 x5_1).f0) == a1) = false := beq_eq_false_iff_ne.mpr c8
       have c8b1 : (((rd_T62 l0_1 x5_1).f0) != a1) = true := bne_iff_ne.mpr c8
       have H' := Aside0.mk H
       clear H
       have hcz12_0 := Rgn.cz0 BK111.out
       have hcz12_1 := Rgn.cz1 BK111.out
       have hfz12_0 := blk_frozen BK111.out 0
       have hfz12_1 := blk_frozen BK111.out 1
       have p112 : 0 ≤ (x5_1 : Int) := of_decide_eq_true (by first | (with_reducible assumption) | assumption)
       have q112 : x5_1 < (l0_1.length : Int) := of_decide_eq_true (by first | (with_reducible assumption) | assumption)
       obtain ⟨ad112, A112_1, c112_1, e112, hx112_0, hx112_1, hl112_1, hi112_1⟩ := at_T62 HR0_1.out x5_1 p112 q112
       cases e112
       replace hx112_0 := Rgn.hx HB.out hx112_0
       replace hx112_1 := Rgn.hx HB.out hx112_1
       have HR112_1 := Aside0.mk hi112_1
       have HC112_1 := Aside0.mk hl112_1
       clear hi112_1 hl112_1
       replace p112 := eq_true p112
       replace q112 := eq_true q112
       go_wp2
       go_roundg k1
       case measure => have := HK1.out; omega
       case rel => exact ⟨(wrap64 (x5_1 - 1)), (by first | rfl | (simp; done) | (simp [*]; done)), H', ⟨by have := HK1.out; omega⟩, ⟨Rgn.kb BK111.out⟩, ⟨Rgn.bq HB.out⟩⟩
     ·
      rw [if_neg c7] at H
      exact absurd H (by simp)
    ·
     rw [if_neg c6] at H
     exact absurd H (by simp)
   ·
    rw [if_neg c5] at H
    have c5b0 : decide (0 ≤ x5_1) = false := decide_eq_false c5
    clear c5
    obtain ⟨ji13, hji13⟩ : ∃ j_ : Int, (wrap64 (a1 * 64)) = j_ := ⟨_, rfl⟩
    replace H : (if 0 ≤ (ji13) then (if (ji13) ≤ (wrap64 ((ji13) + 64)) then (if (wrap64 ((ji13) + 64)) ≤ (l0_0.length : Int) then ((impl_cp.f ((l0_0.take ((wrap64 ((ji13) + 64)) : Int).toNat).drop ((ji13) : Int).toNat)).bind fun t118 => (some t118)) else (none)) else (none)) else (none)) = some r := by first | (rw [hji13] at H; exact H) | (simp only [hji13] at H ⊢; exact H)
    have hji13w : (IntKind.i64.wrap (a1 * 64)) = ji13 := (i64_w _).trans hji13
    by_cases c14 : 0 ≤ (ji13)
    ·
     rw [if_pos c14] at H
     have c14b0 := eq_true c14
     have c14b1 : decide (0 ≤ (ji13)) = true := decide_eq_true c14
     clear c14
     by_cases c15 : (ji13) ≤ (wrap64 ((ji13) + 64))
     ·
      rw [if_pos c15] at H
      have c15b0 := eq_true c15
      have c15b1 : decide ((ji13) ≤ (wrap64 ((ji13) + 64))) = true := decide_eq_true c15
      by_cases c16 : (wrap64 ((ji13) + 64)) ≤ (l0_0.length : Int)
      ·
       rw [if_pos c16] at H
       have c16b0 := eq_true c16
       have c16b1 : decide ((wrap64 ((ji13) + 64)) ≤ (l0_0.length : Int)) = true := decide_eq_true c16
       replace H := Option.bind_eq_some_iff.mp H
       obtain ⟨t118, A170, H⟩ := H
       replace H : (some t118) = some r := H
       have A17 := Aside0.mk A170
       clear A170
       obtain rfl := Option.some.inj H
       have hcz18_0 := Rgn.cz0 BK111.out
       have hcz18_1 := Rgn.cz1 BK111.out
       have hfz18_0 := blk_frozen BK111.out 0
       have hfz18_1 := blk_frozen BK111.out 1
       obtain ⟨i019, hi019, _, hsz19, _⟩ := info_parts info5
       obtain ⟨A19, hcut19, hA19, hC19⟩ := print_mid_of (P := Try.prog) (Value.int .u8) 0 22 5 .i64 .i64 Try.underlying22 hi019 hsz19 A0_0 c0_0 l0_0 (ji13) (wrap64 ((ji13) + 64)) (of_decide_eq_true (by first | (with_reducible assumption) | assumption)) (by first | omega | exact of_decide_eq_true (by first | (with_reducible assumption) | assumption)) (of_decide_eq_true (by first | (with_reducible assumption) | assumption)) HC0_0.out
       have HR117 := Aside0.mk (Kd.C_of_reads (h1 := fun _ => rfl) (hA19 _ (Kd.reads_of_C HR0_0.out)))
       have HC117 := Aside0.mk hC19
       clear hA19 hC19 hi019 hsz19
       go_wp2_with (first | ((with_reducible refine gate_callee (f := 77) rfl ?_); refine goesL_ (some 37) rfl rfl Try.func77 (by kernel_rfl) rfl #[.slice A19 ((l0_0.take ((wrap64 ((ji13) + 64)) : Int).toNat).drop ((ji13) : Int).toNat).length (c0_0 - (ji13).toNat)] rfl (by (try simp only [List.map_toArray, List.map_cons, List.map_nil]); first | done | (rw [show ((l0_0.take ((wrap64 ((ji13) + 64)) : Int).toNat).drop ((ji13) : Int).toNat).length = ((wrap64 ((ji13) + 64)).toNat - (ji13).toNat) from (by rw [List.length_drop, List.length_take]; have h_ : ((wrap64 ((ji13) + 64)) : Int) ≤ (l0_0.length : Int) := of_decide_eq_true (by first | (with_reducible assumption) | assumption); omega)] <;> rfl) | (simp only [hji13]; rfl) | rfl | (simp only [List.length_drop, List.length_take]; rfl)) ?_; (with_reducible refine (impl_cp.calls _ _ ((l0_0.take ((wrap64 ((ji13) + 64)) : Int).toNat).drop ((ji13) : Int).toNat) t118 _ ?side1 ?side2 A17.out).mono ?_); (case side1 => exact Rgn.cq (Kd.C_below HR117.out HB.out)); (case side2 => exact HC117.out); rintro e w20 ⟨v119, rfl, ho0, hb⟩; refine ⟨_, rfl, ?_⟩; have HO120 := Aside0.mk (Kd.R_lower ho0 (below_size (Rgn.bq HB.out))); replace BK111 := Aside0.mk (Rgn.bb BK111.out hb); replace HB := Aside0.mk (below_step (Rgn.bq HB.out) hb); (try clear hb); (try clear ho0)))
       go_ret
       exact ⟨_, by first | rfl | (simp [errW_none, errW_some] <;> rfl) | (simp only [← hji13]; first | rfl | (simp [errW_none, errW_some] <;> rfl)) | (simp [*, errW_none, errW_some] <;> rfl), Rgn.rq HO120.out, Rgn.bq HB.out⟩
      ·
       rw [if_neg c16] at H
       exact absurd H (by simp)
     ·
      rw [if_neg c15] at H
      exact absurd H (by simp)
    ·
     rw [if_neg c14] at H
     exact absurd H (by simp)

/-! ### impl_DiskRead: function 30 -/
def impl_DiskRead.f (k : Nat) (l0_0 : List Int) (l0_1 : List (S62)) (a1 : Int) : Option (List Int) := (impl_ValidDisk.f k l0_0 l0_1).bind fun t122 => (if t122 = true then (if a1 < 0 then (some ([] : List Int)) else ((impl_nb.f l0_0 l0_1).bind fun t123 => (if a1 ≥ t123 then (some ([] : List Int)) else ((impl_rd.f k l0_0 l0_1 a1).bind fun t124 => (some t124))))) else (some ([] : List Int)))
set_option maxHeartbeats 8000000 in
set_option maxRecDepth 100000 in
theorem impl_DiskRead.calls (k : Nat) (A0_0 : Option Addr) (c0_0 : Nat) (l0_0 : List Int) (A0_1 : Option Addr) (c0_1 : Nat) (l0_1 : List (S62)) (a1 : Int) (r : List Int) (w : World) (hr0_0 : Kd.C (Kd.int .u8) w A0_0 l0_0.length l0_0) (hc0_0 : l0_0.length ≤ c0_0) (hr0_1 : Kd.C k62 w A0_1 l0_1.length l0_1) (hc0_1 : l0_1.length ≤ c0_1) (h : impl_DiskRead.f k l0_0 l0_1 a1 = some r) :
  Calls Try.prog 30 #[.agg #[.slice A0_0 l0_0.length c0_0, .slice A0_1 l0_1.length c0_1], .int .i64 a1] w fun e w' => ∃ v0_ : Value, e = .returned (v0_) ∧ Kd.R (Kd.int .u8) 5 w' w.heap.size (fun _ => True) v0_ r ∧ Below w.heap.size w w' := by
 have hu29 := Try.underlying29
 have HR0_0 := Aside0.mk hr0_0
 have HC0_0 := Aside0.mk hc0_0
 clear hr0_0 hc0_0
 have HR0_1 := Aside0.mk hr0_1
 have HC0_1 := Aside0.mk hc0_1
 clear hr0_1 hc0_1
 have HB := Aside0.mk (Below.refl w.heap.size w)
 have H : ((impl_ValidDisk.f k l0_0 l0_1).bind fun t122 => (if t122 = true then (if a1 < 0 then (some ([] : List Int)) else ((impl_nb.f l0_0 l0_1).bind fun t123 => (if a1 ≥ t123 then (some ([] : List Int)) else ((impl_rd.f k l0_0 l0_1 a1).bind fun t124 => (some t124))))) else (some ([] : List Int)))) = some r := h
 clear h
 replace H := Option.bind_eq_some_iff.mp H
 obtain ⟨t122, A30, H⟩ := H
 replace H : (if t122 = true then (if a1 < 0 then (some ([] : List Int)) else ((impl_nb.f l0_0 l0_1).bind fun t123 => (if a1 ≥ t123 then (some ([] : List Int)) else ((impl_rd.f k l0_0 l0_1 a1).bind fun t124 => (some t124))))) else (some ([] : List Int))) = some r := H
 have A3 := Aside0.mk A30
 clear A30
 by_cases c4 : t122 = true
 ·
  subst c4
  have H1 : (if a1 < 0 then (some ([] : List Int)) else ((impl_nb.f l0_0 l0_1).bind fun t123 => (if a1 ≥ t123 then (some ([] : List Int)) else ((impl_rd.f k l0_0 l0_1 a1).bind fun t124 => (some t124))))) = some r := by rw [if_pos rfl] at H; exact H
  clear H
  have H := H1
  clear H1
  by_cases c5 : a1 < 0
  ·
   rw [if_pos c5] at H
   have c5b0 : decide (a1 < 0) = true := decide_eq_true c5
   clear c5
   obtain rfl := Option.some.inj H
   go_enter Try.func30, Try.ntmps30
   go_wp2_with (first | ((with_reducible refine gate_dst (N := 2) rfl ?_); refine Rgn.bx 2 #[.slice A0_0 l0_0.length c0_0, .slice A0_1 l0_1.length c0_1] 29 ?_; intro gb121 hg w6 hbox hb; have BK121 := Aside0.mk (hbox); have GW121 := Aside0.mk (Rgn.ge hg HB.out); have GE121 := Aside0.mk (Rgn.ge hg HB.out); replace HB := Aside0.mk (below_step (Rgn.bq HB.out) hb); clear hb hbox hg; obtain ⟨hcz7_0, hcz7_1, hfz7_0, hfz7_1⟩ := Rgn.c2 BK121.out) | ((with_reducible refine gate_callee (f := 28) rfl ?_); refine Rgn.gl (some 6) Try.func28 #[.agg #[.slice A0_0 l0_0.length c0_0, .slice A0_1 l0_1.length c0_1]] ?_; (with_reducible refine (impl_ValidDisk.calls k _ _ l0_0 _ _ l0_1 true _ ?side1 ?side2 ?side3 ?side4 A3.out).mono ?_); (case side1 => exact Rgn.cq (Kd.C_below HR0_0.out HB.out)); (case side2 => exact HC0_0.out); (case side3 => exact Rgn.cq (Kd.C_below HR0_1.out HB.out)); (case side4 => exact HC0_1.out); rintro e w8 ⟨rfl, hb⟩; refine ⟨_, rfl, ?_⟩; replace BK121 := Aside0.mk (Rgn.bb BK121.out hb); replace HB := Aside0.mk (below_step (Rgn.bq HB.out) hb); (try clear hb)))
   go_ret
   exact ⟨_, by first | rfl | (simp [errW_none, errW_some] <;> rfl) | (simp [*, errW_none, errW_some] <;> rfl), by first | exact Kd.R_nil _ _ _ _ _ | exact Kd.N_nil _ _ _ _ _ | exact Kd.V_nil _ _ _ _ _ | exact Kd.Q_nil _ _ _ _ _ | exact Kd.S_nil _ _ _ _ _, Rgn.bq HB.out⟩
  ·
   rw [if_neg c5] at H
   have c5b0 : decide (a1 < 0) = false := decide_eq_false c5
   clear c5
   replace H := Option.bind_eq_some_iff.mp H
   obtain ⟨t123, A90, H⟩ := H
   replace H : (if a1 ≥ t123 then (some ([] : List Int)) else ((impl_rd.f k l0_0 l0_1 a1).bind fun t124 => (some t124))) = some r := H
   have A9 := Aside0.mk A90
   clear A90
   by_cases c10 : a1 ≥ t123
   ·
    rw [if_pos c10] at H
    have c10b0 : decide (t123 ≤ a1) = true := decide_eq_true c10
    clear c10
    obtain rfl := Option.some.inj H
    go_enter Try.func30, Try.ntmps30
    go_wp2_with (first | ((with_reducible refine gate_dst (N := 2) rfl ?_); refine Rgn.bx 2 #[.slice A0_0 l0_0.length c0_0, .slice A0_1 l0_1.length c0_1] 29 ?_; intro gb121 hg w11 hbox hb; have BK121 := Aside0.mk (hbox); have GW121 := Aside0.mk (Rgn.ge hg HB.out); have GE121 := Aside0.mk (Rgn.ge hg HB.out); replace HB := Aside0.mk (below_step (Rgn.bq HB.out) hb); clear hb hbox hg; obtain ⟨hcz12_0, hcz12_1, hfz12_0, hfz12_1⟩ := Rgn.c2 BK121.out) | ((with_reducible refine gate_callee (f := 28) rfl ?_); refine Rgn.gl (some 6) Try.func28 #[.agg #[.slice A0_0 l0_0.length c0_0, .slice A0_1 l0_1.length c0_1]] ?_; (with_reducible refine (impl_ValidDisk.calls k _ _ l0_0 _ _ l0_1 true _ ?side1 ?side2 ?side3 ?side4 A3.out).mono ?_); (case side1 => exact Rgn.cq (Kd.C_below HR0_0.out HB.out)); (case side2 => exact HC0_0.out); (case side3 => exact Rgn.cq (Kd.C_below HR0_1.out HB.out)); (case side4 => exact HC0_1.out); rintro e w13 ⟨rfl, hb⟩; refine ⟨_, rfl, ?_⟩; replace BK121 := Aside0.mk (Rgn.bb BK121.out hb); replace HB := Aside0.mk (below_step (Rgn.bq HB.out) hb); (try clear hb); obtain ⟨hcz14_0, hcz14_1, hfz14_0, hfz14_1⟩ := Rgn.c2 BK121.out) | (go_at_call 73; (with_reducible refine (impl_nb.calls _ _ l0_0 _ _ l0_1 t123 _ ?side1 ?side2 ?side3 ?side4 A9.out).mono ?_); (case side1 => exact Rgn.cq (Kd.C_below HR0_0.out HB.out)); (case side2 => exact HC0_0.out); (case side3 => exact Rgn.cq (Kd.C_below HR0_1.out HB.out)); (case side4 => exact HC0_1.out); rintro e w15 ⟨rfl, hb⟩; replace BK121 := Aside0.mk (Rgn.bb BK121.out hb); replace HB := Aside0.mk (below_step (Rgn.bq HB.out) hb); (try clear hb)))
    go_ret
    exact ⟨_, by first | rfl | (simp [errW_none, errW_some] <;> rfl) | (simp [*, errW_none, errW_some] <;> rfl), by first | exact Kd.R_nil _ _ _ _ _ | exact Kd.N_nil _ _ _ _ _ | exact Kd.V_nil _ _ _ _ _ | exact Kd.Q_nil _ _ _ _ _ | exact Kd.S_nil _ _ _ _ _, Rgn.bq HB.out⟩
   ·
    rw [if_neg c10] at H
    have c10b0 : decide (t123 ≤ a1) = false := decide_eq_false c10
    clear c10
    replace H := Option.bind_eq_some_iff.mp H
    obtain ⟨t124, A160, H⟩ := H
    replace H : (some t124) = some r := H
    have A16 := Aside0.mk A160
    clear A160
    obtain rfl := Option.some.inj H
    go_enter Try.func30, Try.ntmps30
    go_wp2_with (first | ((with_reducible refine gate_dst (N := 2) rfl ?_); refine Rgn.bx 2 #[.slice A0_0 l0_0.length c0_0, .slice A0_1 l0_1.length c0_1] 29 ?_; intro gb121 hg w17 hbox hb; have BK121 := Aside0.mk (hbox); have GW121 := Aside0.mk (Rgn.ge hg HB.out); have GE121 := Aside0.mk (Rgn.ge hg HB.out); replace HB := Aside0.mk (below_step (Rgn.bq HB.out) hb); clear hb hbox hg; obtain ⟨hcz18_0, hcz18_1, hfz18_0, hfz18_1⟩ := Rgn.c2 BK121.out) | ((with_reducible refine gate_callee (f := 28) rfl ?_); refine Rgn.gl (some 6) Try.func28 #[.agg #[.slice A0_0 l0_0.length c0_0, .slice A0_1 l0_1.length c0_1]] ?_; (with_reducible refine (impl_ValidDisk.calls k _ _ l0_0 _ _ l0_1 true _ ?side1 ?side2 ?side3 ?side4 A3.out).mono ?_); (case side1 => exact Rgn.cq (Kd.C_below HR0_0.out HB.out)); (case side2 => exact HC0_0.out); (case side3 => exact Rgn.cq (Kd.C_below HR0_1.out HB.out)); (case side4 => exact HC0_1.out); rintro e w19 ⟨rfl, hb⟩; refine ⟨_, rfl, ?_⟩; replace BK121 := Aside0.mk (Rgn.bb BK121.out hb); replace HB := Aside0.mk (below_step (Rgn.bq HB.out) hb); (try clear hb); obtain ⟨hcz20_0, hcz20_1, hfz20_0, hfz20_1⟩ := Rgn.c2 BK121.out) | (go_at_call 73; (with_reducible refine (impl_nb.calls _ _ l0_0 _ _ l0_1 t123 _ ?side1 ?side2 ?side3 ?side4 A9.out).mono ?_); (case side1 => exact Rgn.cq (Kd.C_below HR0_0.out HB.out)); (case side2 => exact HC0_0.out); (case side3 => exact Rgn.cq (Kd.C_below HR0_1.out HB.out)); (case side4 => exact HC0_1.out); rintro e w21 ⟨rfl, hb⟩; replace BK121 := Aside0.mk (Rgn.bb BK121.out hb); replace HB := Aside0.mk (below_step (Rgn.bq HB.out) hb); (try clear hb); obtain ⟨hcz22_0, hcz22_1, hfz22_0, hfz22_1⟩ := Rgn.c2 BK121.out) | ((with_reducible refine gate_callee (f := 74) rfl ?_); refine Rgn.gl (some 20) Try.func74 #[.agg #[.slice A0_0 l0_0.length c0_0, .slice A0_1 l0_1.length c0_1], .int .i64 a1] ?_; (with_reducible refine (impl_rd.calls k _ _ l0_0 _ _ l0_1 a1 t124 _ ?side1 ?side2 ?side3 ?side4 A16.out).mono ?_); (case side1 => exact Rgn.cq (Kd.C_below HR0_0.out HB.out)); (case side2 => exact HC0_0.out); (case side3 => exact Rgn.cq (Kd.C_below HR0_1.out HB.out)); (case side4 => exact HC0_1.out); rintro e w23 ⟨v125, rfl, ho0, hb⟩; refine ⟨_, rfl, ?_⟩; have HO126 := Aside0.mk (Kd.R_lower ho0 (below_size (Rgn.bq HB.out))); replace BK121 := Aside0.mk (Rgn.bb BK121.out hb); replace HB := Aside0.mk (below_step (Rgn.bq HB.out) hb); (try clear hb); (try clear ho0)))
    go_ret
    exact ⟨_, by first | rfl | (simp [errW_none, errW_some] <;> rfl) | (simp [*, errW_none, errW_some] <;> rfl), Rgn.rq HO126.out, Rgn.bq HB.out⟩
 ·
  replace c4 := Bool.eq_false_iff.mpr c4
  subst c4
  have H1 : (some ([] : List Int)) = some r := by rw [if_neg (show ¬ (false = true) by decide)] at H; exact H
  clear H
  have H := H1
  clear H1
  obtain rfl := Option.some.inj H
  go_enter Try.func30, Try.ntmps30
  go_wp2_with (first | ((with_reducible refine gate_dst (N := 2) rfl ?_); refine Rgn.bx 2 #[.slice A0_0 l0_0.length c0_0, .slice A0_1 l0_1.length c0_1] 29 ?_; intro gb121 hg w24 hbox hb; have BK121 := Aside0.mk (hbox); have GW121 := Aside0.mk (Rgn.ge hg HB.out); have GE121 := Aside0.mk (Rgn.ge hg HB.out); replace HB := Aside0.mk (below_step (Rgn.bq HB.out) hb); clear hb hbox hg; obtain ⟨hcz25_0, hcz25_1, hfz25_0, hfz25_1⟩ := Rgn.c2 BK121.out) | ((with_reducible refine gate_callee (f := 28) rfl ?_); refine Rgn.gl (some 6) Try.func28 #[.agg #[.slice A0_0 l0_0.length c0_0, .slice A0_1 l0_1.length c0_1]] ?_; (with_reducible refine (impl_ValidDisk.calls k _ _ l0_0 _ _ l0_1 false _ ?side1 ?side2 ?side3 ?side4 A3.out).mono ?_); (case side1 => exact Rgn.cq (Kd.C_below HR0_0.out HB.out)); (case side2 => exact HC0_0.out); (case side3 => exact Rgn.cq (Kd.C_below HR0_1.out HB.out)); (case side4 => exact HC0_1.out); rintro e w26 ⟨rfl, hb⟩; refine ⟨_, rfl, ?_⟩; replace BK121 := Aside0.mk (Rgn.bb BK121.out hb); replace HB := Aside0.mk (below_step (Rgn.bq HB.out) hb); (try clear hb)))
  go_ret
  exact ⟨_, by first | rfl | (simp [errW_none, errW_some] <;> rfl) | (simp [*, errW_none, errW_some] <;> rfl), by first | exact Kd.R_nil _ _ _ _ _ | exact Kd.N_nil _ _ _ _ _ | exact Kd.V_nil _ _ _ _ _ | exact Kd.Q_nil _ _ _ _ _ | exact Kd.S_nil _ _ _ _ _, Rgn.bq HB.out⟩

/-! ### spec_l1Put: function 76 -/
def spec_l1Put.l0 : Nat → List Int → Int → List Int → Int → Option (List Int)
 | 0, _, _, _, _ => none
 | k + 1, x0, x1, x2, x6 => if x6 < 64 then (if 0 ≤ x6 then (if x6 < (x2.length : Int) then (if 0 ≤ (wrap64 ((wrap64 (x1 * 64)) + x6)) then (if (wrap64 ((wrap64 (x1 * 64)) + x6)) < (x0.length : Int) then (spec_l1Put.l0 k (x0.set ((wrap64 ((wrap64 (x1 * 64)) + x6)) : Int).toNat (rd x2 x6)) x1 x2 (wrap64 (x6 + 1))) else (none)) else (none)) else (none)) else (none)) else (some x0)
def spec_l1Put.f (k : Nat) (l0 : List Int) (a1 : Int) (l2 : List Int) : Option (List Int) := spec_l1Put.l0 k l0 a1 l2 0
set_option maxHeartbeats 8000000 in
set_option maxRecDepth 100000 in
theorem spec_l1Put.calls (k : Nat) (P0_ : Nat → Prop) (u9000_ : Value) (l0 : List Int) (a1 : Int) (A2 : Option Addr) (c2 : Nat) (l2 : List Int) (r : List Int) (w0 w : World) (hB : Below w0.heap.size w0 w) (ho0 : Kd.R (Kd.int .u8) 5 w w0.heap.size P0_ u9000_ l0) (hr2 : ∀ W_, Kept w W_ (fun k_ => P0_ k_) → Kd.C (Kd.int .u8) W_ A2 l2.length l2) (hc2 : l2.length ≤ c2) (h : spec_l1Put.f k l0 a1 l2 = some r) :
  Calls Try.prog 76 #[u9000_, .int .i64 a1, .slice A2 l2.length c2] w fun e w' => e = .returned (.tuple #[]) ∧ Kd.R (Kd.int .u8) 5 w' w0.heap.size (fun k_ => (P0_ k_ ∨ w.heap.size ≤ k_)) u9000_ r ∧ Below w0.heap.size w0 w' ∧ Kept w w' (fun k_ => P0_ k_) := by
 have HO0 := Aside0.mk (show Kd.R (Kd.int .u8) 5 w w0.heap.size (fun k_ => (P0_ k_ ∨ w.heap.size ≤ k_)) u9000_ l0 from Kd.R_mono ho0 (fun k_ hk => (.inl hk)))
 have HR2 := Aside0.mk hr2
 have HC2 := Aside0.mk hc2
 clear hr2 hc2
 have HK := Aside0.mk (Kept.refl w (fun k_ => P0_ k_))
 have HW0 := Aside0.mk hB.size
 have HB := Aside0.mk hB
 clear hB
 have H : (spec_l1Put.l0 k l0 a1 l2 0) = some r := h
 clear h
 have H' := Aside0.mk H
 clear H
 go_enter Try.func76, Try.ntmps76
 go_wp2
 go_loopg [6] k (fun kq v6 w' => ∃ (x0_1 : List Int) (x6_1 : Int), v6 = .int .i64 x6_1 ∧ Aside0 (spec_l1Put.l0 kq x0_1 a1 l2 x6_1 = some r) ∧ Aside0 (kq ≤ k) ∧ Aside0 (Kd.R (Kd.int .u8) 5 w' w0.heap.size (fun k_ => (P0_ k_ ∨ w.heap.size ≤ k_)) u9000_ x0_1) ∧ Aside0 (Kept w w' (fun k_ => P0_ k_)) ∧ Aside0 (Below w0.heap.size w0 w'))
 case atStart => exact ⟨(l0), (0), (by first | rfl | (simp; done) | (simp [*]; done)), H', ⟨Nat.le_refl _⟩, ⟨Rgn.rq HO0.out⟩, ⟨Rgn.kq HK.out⟩, ⟨Rgn.bq HB.out⟩⟩
 case round =>
  clear H'
  try clear c2
  try clear p2
  obtain ⟨x0_1, x6_1, rfl, HA, HK1, HO_0, HK, HB⟩ := hrel
  cases gk with
  | zero => exact absurd HA.out (by simp [spec_l1Put.l0])
  | succ k1 =>
   have H := HA.out
   clear HA
   simp only [spec_l1Put.l0] at H
   by_cases c4 : x6_1 < 64
   ·
    rw [if_pos c4] at H
    have c4b0 : decide (x6_1 < 64) = true := decide_eq_true c4
    clear c4
    by_cases c5 : 0 ≤ x6_1
    ·
     rw [if_pos c5] at H
     have c5b0 : decide (0 ≤ x6_1) = true := decide_eq_true c5
     clear c5
     by_cases c6 : x6_1 < (l2.length : Int)
     ·
      rw [if_pos c6] at H
      have c6b0 : decide (x6_1 < (l2.length : Int)) = true := decide_eq_true c6
      clear c6
      obtain ⟨ji7, hji7⟩ : ∃ j_ : Int, (wrap64 ((wrap64 (a1 * 64)) + x6_1)) = j_ := ⟨_, rfl⟩
      replace H : (if 0 ≤ (ji7) then (if (ji7) < (x0_1.length : Int) then (spec_l1Put.l0 k1 (x0_1.set ((ji7) : Int).toNat (rd l2 x6_1)) a1 l2 (wrap64 (x6_1 + 1))) else (none)) else (none)) = some r := by first | (rw [hji7] at H; exact H) | (simp only [hji7] at H ⊢; exact H)
      have hji7w : (IntKind.i64.wrap ((wrap64 (a1 * 64)) + x6_1)) = ji7 := (i64_w _).trans hji7
      by_cases c8 : 0 ≤ (ji7)
      ·
       rw [if_pos c8] at H
       have c8b0 : decide (0 ≤ (ji7)) = true := decide_eq_true c8
       clear c8
       by_cases c9 : (ji7) < (x0_1.length : Int)
       ·
        rw [if_pos c9] at H
        have c9b0 : decide ((ji7) < (x0_1.length : Int)) = true := decide_eq_true c9
        clear c9
        obtain ⟨y128, hy128⟩ : ∃ y_ : List Int, y_ = (x0_1.set ((ji7) : Int).toNat (rd l2 x6_1)) := ⟨_, rfl⟩
        replace H : (spec_l1Put.l0 k1 y128 a1 l2 (wrap64 (x6_1 + 1))) = some r := by first | (rw [hy128]; with_reducible exact H) | (have H2_ := (Option.bind_some _ _).symm.trans H; rw [hy128]; with_reducible exact H2_) | (have H2_ := (Option.bind_some _ _).symm.trans H; with_reducible exact H2_) | with_reducible exact H | (rw [hy128]; exact H) | exact H
        have Ny128 := Aside0.mk hy128
        clear hy128
        have H' := Aside0.mk H
        clear H
        have p127 : 0 ≤ (x6_1 : Int) := of_decide_eq_true (by first | (with_reducible assumption) | assumption)
        have q127 : x6_1 < (l2.length : Int) := of_decide_eq_true (by first | (with_reducible assumption) | assumption)
        obtain ⟨ad127, e127, hx127_0⟩ := Kd.at_int (Kd.C_kept_now HR2.out HK.out) x6_1 p127 q127
        cases e127
        replace p127 := eq_true p127
        replace q127 := eq_true q127
        have p10 : 0 ≤ ((ji7) : Int) := of_decide_eq_true (by first | (with_reducible assumption) | assumption)
        have q10 : ((ji7) : Int) < ((x0_1.length : Int) : Int) := of_decide_eq_true (by first | (with_reducible assumption) | assumption)
        obtain ⟨go10, co10, eo10, gb10, gl10, cl10, HG10⟩ := Kd.R_form HO_0.out (by omega)
        (first | cases eo10 | (injection eo10 with ea_ en_ ec_; (first | subst ea_ | (injection ea_ with ea_; subst ea_)); subst ec_; clear en_))
        have GB10 := Aside0.mk gb10
        have GG10 := Aside0.mk HG10
        clear gb10 gl10 HG10
        have HMgo10 := Aside0.mk (show (P0_ go10 ∨ w.heap.size ≤ go10) from (HO_0.out.1 _ rfl))
        obtain ⟨hx10_0, hf10_0⟩ := Kd.R_celln 0 HO_0.out ((ji7) : Int) p10 q10
        replace p10 := eq_true p10
        replace q10 := eq_true q10
        have HP11 := Kd.R_putg HO_0.out ((ji7) : Int) (rd l2 x6_1)
        go_wp2_with (first | ((with_reducible refine gate_store (t := 5) (p := 20) rfl ?_); refine store_event (t := 5) (p := 20) (v := ?vo_w12) (w1 := (wr.setCell ⟨go10, ((ji7) : Int).toNat, none⟩ (.int .u8 (rd l2 x6_1)))) ?hg ?ho ?hn ?hr ?_; (case ho => rfl); (case hg => rfl); (case hn => rfl); (case hr => first | (go_simp; done) | (go_simp; rfl)); intro w12 hw; have hg : wr.grownBy w12 (some go10) := (by rw [hw]; exact HP11.2); have hp_ : Kd.R (Kd.int .u8) 5 w12 w0.heap.size (fun k_ => (P0_ k_ ∨ w.heap.size ≤ k_)) (.slice (some ⟨go10, 0, none⟩) x0_1.length co10) y128 := (by rw [hw, Ny128.out]; exact HP11.1); clear HP11; replace HB := Aside0.mk ((by rw [hw]; exact below_set (HB.out) GB10.out : Below w0.heap.size w0 w12)); replace HK := Aside0.mk (Kept.of_grown (S := (fun k_ => P0_ k_)) hg (Rgn.kq HK.out) (fun k_ e_ => (HO_0.out.1 k_ e_))); replace HO_0 := Aside0.mk (hp_); clear hg hw hp_))
        go_roundg k1
        case measure => have := HK1.out; omega
        case rel => exact ⟨(y128), (wrap64 (x6_1 + 1)), (by first | rfl | (simp; done) | (simp [*]; done)), H', ⟨by have := HK1.out; omega⟩, ⟨Rgn.rq HO_0.out⟩, ⟨Rgn.kq HK.out⟩, ⟨Rgn.bq HB.out⟩⟩
       ·
        rw [if_neg c9] at H
        exact absurd H (by simp)
      ·
       rw [if_neg c8] at H
       exact absurd H (by simp)
     ·
      rw [if_neg c6] at H
      exact absurd H (by simp)
    ·
     rw [if_neg c5] at H
     exact absurd H (by simp)
   ·
    rw [if_neg c4] at H
    have c4b0 : decide (x6_1 < 64) = false := decide_eq_false c4
    clear c4
    obtain rfl := Option.some.inj H
    go_wp2
    first | go_end0 | ((try simp only [Exit.inBlock, Exit.then]); refine bodyPost_ret (results_none rfl _ _ _) rfl ?_)
    exact ⟨by first | rfl | (simp [errW_none, errW_some] <;> rfl) | (simp [*, errW_none, errW_some] <;> rfl), Rgn.rq HO_0.out, Rgn.bq HB.out, Rgn.kq HK.out⟩

end Go.Proofs.Ytdhjhadcadcceaa.PFnDisk
