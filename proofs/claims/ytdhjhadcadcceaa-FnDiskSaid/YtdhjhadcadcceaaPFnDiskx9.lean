-- written by a program of this session (wip/src/print2.py)
import Derived.Test.YtdhjhadcadcceaaPFnDiskx0
import Derived.Test.YtdhjhadcadcceaaPFnDiskx2
namespace Go.Proofs.Ytdhjhadcadcceaa.PFnDisk
open Go.RowKit Go.Proofs.YtdhjhadcadcceaaW.PrintWords Go.Proofs.YtdhjhadcadcceaaW.PrintLast Go.Proofs.YtdhjhadcadcceaaW.PrintMore
attribute [local go_sem] max2_int min2_int max_two min_two max_three min_three max_four min_four   -- for this text's walks alone
set_option linter.unusedVariables false
set_option linter.unusedSimpArgs false

/-! ### spec_ValidDisk: function 26 -/
mutual
def spec_ValidDisk.j0 : Nat → Int → Bool → List Int → List (S62) → Option (Bool)
 | 0, _, _, _, _ => none
 | k + 1, x3, x25, x409000, x409001 => if x25 = true then (some false) else (spec_ValidDisk.l0 k x3 0 x409000 x409001)
def spec_ValidDisk.l0 : Nat → Int → Int → List Int → List (S62) → Option (Bool)
 | 0, _, _, _, _ => none
 | k + 1, x3, x4, x409000, x409001 => if x4 < (x409001.length : Int) then (if 0 ≤ x4 then (if ((rd_T62 x409001 x4).f0) < 0 then (some false) else (if ((rd_T62 x409001 x4).f0) ≥ x3 then (some false) else (if (((rd_T62 x409001 x4).f1).length : Int) = 64 then (spec_ValidDisk.l0 k x3 (wrap64 (x4 + 1)) x409000 x409001) else (some false)))) else (none)) else (some true)
end
def spec_ValidDisk.f (k : Nat) (l0_0 : List Int) (l0_1 : List (S62)) : Option (Bool) := (spec_l1Blocks.f l0_0 l0_1).bind fun t409 => (if ((l0_0.length : Int) % 64) = 0 then (if t409 < 1 then (spec_ValidDisk.j0 k t409 true l0_0 l0_1) else (if t409 > 2048 then (spec_ValidDisk.j0 k t409 true l0_0 l0_1) else (spec_ValidDisk.j0 k t409 (decide ((l0_1.length : Int) > 600)) l0_0 l0_1))) else (spec_ValidDisk.j0 k t409 true l0_0 l0_1))
set_option maxHeartbeats 8000000 in
set_option maxRecDepth 100000 in
theorem spec_ValidDisk.calls (k : Nat) (A0_0 : Option Addr) (c0_0 : Nat) (l0_0 : List Int) (A0_1 : Option Addr) (c0_1 : Nat) (l0_1 : List (S62)) (r : Bool) (w : World) (hr0_0 : Kd.C (Kd.int .u8) w A0_0 l0_0.length l0_0) (hc0_0 : l0_0.length ≤ c0_0) (hr0_1 : Kd.C k62 w A0_1 l0_1.length l0_1) (hc0_1 : l0_1.length ≤ c0_1) (h : spec_ValidDisk.f k l0_0 l0_1 = some r) :
  Calls Try.prog 26 #[.agg #[.slice A0_0 l0_0.length c0_0, .slice A0_1 l0_1.length c0_1]] w fun e w' => e = .returned (.bool r) ∧ Below w.heap.size w w' := by
 have hu29 := Try.underlying29
 have HR0_0 := Aside0.mk hr0_0
 have HC0_0 := Aside0.mk hc0_0
 clear hr0_0 hc0_0
 have HR0_1 := Aside0.mk hr0_1
 have HC0_1 := Aside0.mk hc0_1
 clear hr0_1 hc0_1
 have HB := Aside0.mk (Below.refl w.heap.size w)
 have H : ((spec_l1Blocks.f l0_0 l0_1).bind fun t409 => (if ((l0_0.length : Int) % 64) = 0 then (if t409 < 1 then (spec_ValidDisk.j0 k t409 true l0_0 l0_1) else (if t409 > 2048 then (spec_ValidDisk.j0 k t409 true l0_0 l0_1) else (spec_ValidDisk.j0 k t409 (decide ((l0_1.length : Int) > 600)) l0_0 l0_1))) else (spec_ValidDisk.j0 k t409 true l0_0 l0_1))) = some r := h
 clear h
 replace H := Option.bind_eq_some_iff.mp H
 obtain ⟨t409, A20, H⟩ := H
 replace H : (if ((l0_0.length : Int) % 64) = 0 then (if t409 < 1 then (spec_ValidDisk.j0 k t409 true l0_0 l0_1) else (if t409 > 2048 then (spec_ValidDisk.j0 k t409 true l0_0 l0_1) else (spec_ValidDisk.j0 k t409 (decide ((l0_1.length : Int) > 600)) l0_0 l0_1))) else (spec_ValidDisk.j0 k t409 true l0_0 l0_1)) = some r := H
 have A2 := Aside0.mk A20
 clear A20
 have HC3 := Aside0.mk H
 clear H
 go_enter Try.func26, Try.ntmps26
 go_upto_region 2 with (first | ((with_reducible refine gate_dst (N := 1) rfl ?_); (try (refine gate_guard (by rfl) ?_; dsimp only)); refine Rgn.bx 1 #[.slice A0_0 l0_0.length c0_0, .slice A0_1 l0_1.length c0_1] 29 ?_; intro gb408 hg w4 hbox hb; have BK408 := Aside0.mk (hbox); have GW408 := Aside0.mk (Rgn.ge hg HB.out); have GE408 := Aside0.mk (Rgn.ge hg HB.out); replace HB := Aside0.mk (below_step (Rgn.bq HB.out) hb); clear hb hbox hg; obtain ⟨hcz5_0, hcz5_1, hfz5_0, hfz5_1⟩ := Rgn.c2 BK408.out) | ((with_reducible refine gate_callee (f := 70) rfl ?_); refine Rgn.gl (some 6) Try.func70 #[.agg #[.slice A0_0 l0_0.length c0_0, .slice A0_1 l0_1.length c0_1]] ?_; (with_reducible refine (spec_l1Blocks.calls _ _ l0_0 _ _ l0_1 t409 _ ?side1 ?side2 ?side3 ?side4 A2.out).mono ?_); (case side1 => exact Rgn.cq (Kd.C_below HR0_0.out HB.out)); (case side2 => exact HC0_0.out); (case side3 => exact Rgn.cq (Kd.C_below HR0_1.out HB.out)); (case side4 => exact HC0_1.out); rintro e w6 ⟨rfl, hb⟩; refine ⟨_, rfl, ?_⟩; replace BK408 := Aside0.mk (Rgn.bb BK408.out hb); replace HB := Aside0.mk (below_step (Rgn.bq HB.out) hb); (try clear hb)))
 (try simp only [Act.put, List.setIfInBounds_toArray, List.set_cons_zero, List.set_cons_succ])
 go_cut [25] (fun v25 wc => ∃ (kq : Nat) (x25_2 : Bool), v25 = .bool x25_2 ∧ Aside0 (spec_ValidDisk.j0 kq t409 x25_2 l0_0 l0_1 = some r) ∧ Aside0 (kq ≤ k) ∧ Aside0 (wc.heap[gb408]? = some (.cells #[(.slice A0_0 l0_0.length c0_0), (.slice A0_1 l0_1.length c0_1)] 29 (0, 0))) ∧ Aside0 (Below w.heap.size w wc))
 case first =>
  have H := HC3.out
  clear HC3
  by_cases c7 : ((l0_0.length : Int) % 64) = 0
  ·
   rw [if_pos c7] at H
   have c7b0 : (((l0_0.length : Int) % 64) == 0) = true := beq_iff_eq.mpr c7
   have c7b1 : (((l0_0.length : Int) % 64) != 0) = false := bne_eq_false_iff_eq.mpr c7
   clear c7
   (first | rw [c7b0] | (simp only [i64_w, i32_w]; rw [c7b0]) | skip)
   by_cases c8 : t409 < 1
   ·
    rw [if_pos c8] at H
    have c8b0 : decide (t409 < 1) = true := decide_eq_true c8
    clear c8
    have H' := Aside0.mk H
    clear H
    have hcz9_0 := Rgn.cz0 BK408.out
    have hcz9_1 := Rgn.cz1 BK408.out
    have hfz9_0 := blk_frozen BK408.out 0
    have hfz9_1 := blk_frozen BK408.out 1
    go_wp2
    go_meet
    case rel => exact ⟨_, (true), (by first | rfl | (simp; done) | (simp [*]; done)), H', ⟨by first | omega | exact Nat.le_refl _⟩, ⟨Rgn.kb BK408.out⟩, ⟨Rgn.bq HB.out⟩⟩
   ·
    rw [if_neg c8] at H
    have c8b0 : decide (t409 < 1) = false := decide_eq_false c8
    clear c8
    by_cases c10 : t409 > 2048
    ·
     rw [if_pos c10] at H
     have c10b0 : decide (2048 < t409) = true := decide_eq_true c10
     clear c10
     have H' := Aside0.mk H
     clear H
     have hcz11_0 := Rgn.cz0 BK408.out
     have hcz11_1 := Rgn.cz1 BK408.out
     have hfz11_0 := blk_frozen BK408.out 0
     have hfz11_1 := blk_frozen BK408.out 1
     go_wp2
     go_meet
     case rel => exact ⟨_, (true), (by first | rfl | (simp; done) | (simp [*]; done)), H', ⟨by first | omega | exact Nat.le_refl _⟩, ⟨Rgn.kb BK408.out⟩, ⟨Rgn.bq HB.out⟩⟩
    ·
     rw [if_neg c10] at H
     have c10b0 : decide (2048 < t409) = false := decide_eq_false c10
     clear c10
     have H' := Aside0.mk H
     clear H
     have hcz12_0 := Rgn.cz0 BK408.out
     have hcz12_1 := Rgn.cz1 BK408.out
     have hfz12_0 := blk_frozen BK408.out 0
     have hfz12_1 := blk_frozen BK408.out 1
     go_wp2
     go_meet
     case rel => exact ⟨_, (decide ((l0_1.length : Int) > 600)), (by first | rfl | (simp; done) | (simp [*]; done)), H', ⟨by first | omega | exact Nat.le_refl _⟩, ⟨Rgn.kb BK408.out⟩, ⟨Rgn.bq HB.out⟩⟩
  ·
   rw [if_neg c7] at H
   have c7b0 : (((l0_0.length : Int) % 64) == 0) = false := beq_eq_false_iff_ne.mpr c7
   have c7b1 : (((l0_0.length : Int) % 64) != 0) = true := bne_iff_ne.mpr c7
   (first | rw [c7b0] | (simp only [i64_w, i32_w]; rw [c7b0]) | skip)
   have H' := Aside0.mk H
   clear H
   have hcz13_0 := Rgn.cz0 BK408.out
   have hcz13_1 := Rgn.cz1 BK408.out
   have hfz13_0 := blk_frozen BK408.out 0
   have hfz13_1 := blk_frozen BK408.out 1
   go_wp2
   go_meet
   case rel => exact ⟨_, (true), (by first | rfl | (simp; done) | (simp [*]; done)), H', ⟨by first | omega | exact Nat.le_refl _⟩, ⟨Rgn.kb BK408.out⟩, ⟨Rgn.bq HB.out⟩⟩
 case rest =>
  clear HC3
  try clear c1
  try clear c2
  try clear p2
  try clear c7
  try clear c7b0
  try clear c7b1
  try clear c8
  try clear c8b0
  try clear c10
  try clear c10b0
  try clear hcz11_0 hcz11_1
  try clear hcz12_0 hcz12_1
  try clear hcz13_0 hcz13_1
  try clear hcz5_0 hcz5_1
  try clear hcz9_0 hcz9_1
  try clear hfz11_0 hfz11_1
  try clear hfz12_0 hfz12_1
  try clear hfz13_0 hfz13_1
  try clear hfz5_0 hfz5_1
  try clear hfz9_0 hfz9_1
  obtain ⟨kq, x25_2, rfl, HA, HJ2, BK408, HB⟩ := hcut
  cases kq with
  | zero => exact absurd HA.out (by simp [spec_ValidDisk.j0])
  | succ kj2 =>
   have H := HA.out
   clear HA
   simp only [spec_ValidDisk.j0] at H
   by_cases c14 : x25_2 = true
   ·
    subst c14
    have H1 : (some false) = some r := by rw [if_pos rfl] at H; exact H
    clear H
    have H := H1
    clear H1
    obtain rfl := Option.some.inj H
    go_wp2
    go_ret
    exact ⟨by first | rfl | (simp [errW_none, errW_some] <;> rfl) | (simp [*, errW_none, errW_some] <;> rfl), Rgn.bq HB.out⟩
   ·
    replace c14 := Bool.eq_false_iff.mpr c14
    subst c14
    have H1 : (spec_ValidDisk.l0 kj2 t409 0 l0_0 l0_1) = some r := by rw [if_neg (show ¬ (false = true) by decide)] at H; exact H
    clear H
    have H := H1
    clear H1
    have H' := Aside0.mk H
    clear H
    go_wp2
    go_loopg [4] kj2 (fun kq v4 w' => ∃ (x4_2 : Int), v4 = .int .i64 x4_2 ∧ Aside0 (spec_ValidDisk.l0 kq t409 x4_2 l0_0 l0_1 = some r) ∧ Aside0 (kq ≤ kj2) ∧ Aside0 (w'.heap[gb408]? = some (.cells #[(.slice A0_0 l0_0.length c0_0), (.slice A0_1 l0_1.length c0_1)] 29 (0, 0))) ∧ Aside0 (Below w.heap.size w w'))
    case atStart => exact ⟨(0), (by first | rfl | (simp; done) | (simp [*]; done)), H', ⟨Nat.le_refl _⟩, ⟨Rgn.kb BK408.out⟩, ⟨Rgn.bq HB.out⟩⟩
    case round =>
     clear H'
     try clear c1
     try clear c2
     try clear p2
     try clear c7
     try clear c7b0
     try clear c7b1
     try clear c8
     try clear c8b0
     try clear c10
     try clear c10b0
     try clear c14
     try clear hcz11_0 hcz11_1
     try clear hcz12_0 hcz12_1
     try clear hcz13_0 hcz13_1
     try clear hcz5_0 hcz5_1
     try clear hcz9_0 hcz9_1
     try clear hfz11_0 hfz11_1
     try clear hfz12_0 hfz12_1
     try clear hfz13_0 hfz13_1
     try clear hfz5_0 hfz5_1
     try clear hfz9_0 hfz9_1
     try clear p2
     obtain ⟨x4_2, rfl, HA, HK2, BK408, HB⟩ := hrel
     cases gk with
     | zero => exact absurd HA.out (by simp [spec_ValidDisk.l0])
     | succ k2 =>
      have H := HA.out
      clear HA
      simp only [spec_ValidDisk.l0] at H
      by_cases c15 : x4_2 < (l0_1.length : Int)
      ·
       rw [if_pos c15] at H
       have c15b0 : decide (x4_2 < (l0_1.length : Int)) = true := decide_eq_true c15
       clear c15
       by_cases c16 : 0 ≤ x4_2
       ·
        rw [if_pos c16] at H
        have c16b0 : decide (0 ≤ x4_2) = true := decide_eq_true c16
        clear c16
        by_cases c17 : ((rd_T62 l0_1 x4_2).f0) < 0
        ·
         rw [if_pos c17] at H
         have c17b0 : decide (((rd_T62 l0_1 x4_2).f0) < 0) = true := decide_eq_true c17
         clear c17
         obtain rfl := Option.some.inj H
         have hcz18_0 := Rgn.cz0 BK408.out
         have hcz18_1 := Rgn.cz1 BK408.out
         have hfz18_0 := blk_frozen BK408.out 0
         have hfz18_1 := blk_frozen BK408.out 1
         have p410 : 0 ≤ (x4_2 : Int) := of_decide_eq_true (by first | (with_reducible assumption) | assumption)
         have q410 : x4_2 < (l0_1.length : Int) := of_decide_eq_true (by first | (with_reducible assumption) | assumption)
         obtain ⟨ad410, A410_1, c410_1, e410, hx410_0, hx410_1, hl410_1, hi410_1⟩ := at_T62 HR0_1.out x4_2 p410 q410
         cases e410
         replace hx410_0 := Rgn.hx HB.out hx410_0
         replace hx410_1 := Rgn.hx HB.out hx410_1
         have HR410_1 := Aside0.mk hi410_1
         have HC410_1 := Aside0.mk hl410_1
         clear hi410_1 hl410_1
         replace p410 := eq_true p410
         replace q410 := eq_true q410
         go_wp2
         go_ret
         exact ⟨by first | rfl | (simp [errW_none, errW_some] <;> rfl) | (simp [*, errW_none, errW_some] <;> rfl), Rgn.bq HB.out⟩
        ·
         rw [if_neg c17] at H
         have c17b0 : decide (((rd_T62 l0_1 x4_2).f0) < 0) = false := decide_eq_false c17
         clear c17
         by_cases c19 : ((rd_T62 l0_1 x4_2).f0) ≥ t409
         ·
          rw [if_pos c19] at H
          have c19b0 : decide (t409 ≤ ((rd_T62 l0_1 x4_2).f0)) = true := decide_eq_true c19
          clear c19
          obtain rfl := Option.some.inj H
          have hcz20_0 := Rgn.cz0 BK408.out
          have hcz20_1 := Rgn.cz1 BK408.out
          have hfz20_0 := blk_frozen BK408.out 0
          have hfz20_1 := blk_frozen BK408.out 1
          have p410 : 0 ≤ (x4_2 : Int) := of_decide_eq_true (by first | (with_reducible assumption) | assumption)
          have q410 : x4_2 < (l0_1.length : Int) := of_decide_eq_true (by first | (with_reducible assumption) | assumption)
          obtain ⟨ad410, A410_1, c410_1, e410, hx410_0, hx410_1, hl410_1, hi410_1⟩ := at_T62 HR0_1.out x4_2 p410 q410
          cases e410
          replace hx410_0 := Rgn.hx HB.out hx410_0
          replace hx410_1 := Rgn.hx HB.out hx410_1
          have HR410_1 := Aside0.mk hi410_1
          have HC410_1 := Aside0.mk hl410_1
          clear hi410_1 hl410_1
          replace p410 := eq_true p410
          replace q410 := eq_true q410
          have p411 : 0 ≤ (x4_2 : Int) := of_decide_eq_true (by first | (with_reducible assumption) | assumption)
          have q411 : x4_2 < (l0_1.length : Int) := of_decide_eq_true (by first | (with_reducible assumption) | assumption)
          obtain ⟨ad411, A411_1, c411_1, e411, hx411_0, hx411_1, hl411_1, hi411_1⟩ := at_T62 HR0_1.out x4_2 p411 q411
          obtain rfl : ad410 = ad411 := (by injection e411)
          replace hx411_0 := Rgn.hx HB.out hx411_0
          replace hx411_1 := Rgn.hx HB.out hx411_1
          have HR411_1 := Aside0.mk hi411_1
          have HC411_1 := Aside0.mk hl411_1
          clear hi411_1 hl411_1
          replace p411 := eq_true p411
          replace q411 := eq_true q411
          have ea_ := Option.some.inj (hx410_1.symm.trans hx411_1)
          injection ea_ with ea_ en_ ec_
          subst ea_
          subst ec_
          clear en_
          go_wp2
          go_ret
          exact ⟨by first | rfl | (simp [errW_none, errW_some] <;> rfl) | (simp [*, errW_none, errW_some] <;> rfl), Rgn.bq HB.out⟩
         ·
          rw [if_neg c19] at H
          have c19b0 : decide (t409 ≤ ((rd_T62 l0_1 x4_2).f0)) = false := decide_eq_false c19
          clear c19
          by_cases c21 : (((rd_T62 l0_1 x4_2).f1).length : Int) = 64
          ·
           rw [if_pos c21] at H
           have c21b0 : ((((rd_T62 l0_1 x4_2).f1).length : Int) == 64) = true := beq_iff_eq.mpr c21
           have c21b1 : ((((rd_T62 l0_1 x4_2).f1).length : Int) != 64) = false := bne_eq_false_iff_eq.mpr c21
           clear c21
           have H' := Aside0.mk H
           clear H
           have hcz22_0 := Rgn.cz0 BK408.out
           have hcz22_1 := Rgn.cz1 BK408.out
           have hfz22_0 := blk_frozen BK408.out 0
           have hfz22_1 := blk_frozen BK408.out 1
           have p410 : 0 ≤ (x4_2 : Int) := of_decide_eq_true (by first | (with_reducible assumption) | assumption)
           have q410 : x4_2 < (l0_1.length : Int) := of_decide_eq_true (by first | (with_reducible assumption) | assumption)
           obtain ⟨ad410, A410_1, c410_1, e410, hx410_0, hx410_1, hl410_1, hi410_1⟩ := at_T62 HR0_1.out x4_2 p410 q410
           cases e410
           replace hx410_0 := Rgn.hx HB.out hx410_0
           replace hx410_1 := Rgn.hx HB.out hx410_1
           have HR410_1 := Aside0.mk hi410_1
           have HC410_1 := Aside0.mk hl410_1
           clear hi410_1 hl410_1
           replace p410 := eq_true p410
           replace q410 := eq_true q410
           have p411 : 0 ≤ (x4_2 : Int) := of_decide_eq_true (by first | (with_reducible assumption) | assumption)
           have q411 : x4_2 < (l0_1.length : Int) := of_decide_eq_true (by first | (with_reducible assumption) | assumption)
           obtain ⟨ad411, A411_1, c411_1, e411, hx411_0, hx411_1, hl411_1, hi411_1⟩ := at_T62 HR0_1.out x4_2 p411 q411
           obtain rfl : ad410 = ad411 := (by injection e411)
           replace hx411_0 := Rgn.hx HB.out hx411_0
           replace hx411_1 := Rgn.hx HB.out hx411_1
           have HR411_1 := Aside0.mk hi411_1
           have HC411_1 := Aside0.mk hl411_1
           clear hi411_1 hl411_1
           replace p411 := eq_true p411
           replace q411 := eq_true q411
           have ea_ := Option.some.inj (hx410_1.symm.trans hx411_1)
           injection ea_ with ea_ en_ ec_
           subst ea_
           subst ec_
           clear en_
           have p412 : 0 ≤ (x4_2 : Int) := of_decide_eq_true (by first | (with_reducible assumption) | assumption)
           have q412 : x4_2 < (l0_1.length : Int) := of_decide_eq_true (by first | (with_reducible assumption) | assumption)
           obtain ⟨ad412, A412_1, c412_1, e412, hx412_0, hx412_1, hl412_1, hi412_1⟩ := at_T62 HR0_1.out x4_2 p412 q412
           obtain rfl : ad410 = ad412 := (by injection e412)
           replace hx412_0 := Rgn.hx HB.out hx412_0
           replace hx412_1 := Rgn.hx HB.out hx412_1
           have HR412_1 := Aside0.mk hi412_1
           have HC412_1 := Aside0.mk hl412_1
           clear hi412_1 hl412_1
           replace p412 := eq_true p412
           replace q412 := eq_true q412
           have ea_ := Option.some.inj (hx410_1.symm.trans hx412_1)
           injection ea_ with ea_ en_ ec_
           subst ea_
           subst ec_
           clear en_
           go_wp2
           go_roundg k2
           case measure => have := HJ2.out; have := HK2.out; omega
           case rel => exact ⟨(wrap64 (x4_2 + 1)), (by first | rfl | (simp; done) | (simp [*]; done)), H', ⟨by have := HJ2.out; have := HK2.out; omega⟩, ⟨Rgn.kb BK408.out⟩, ⟨Rgn.bq HB.out⟩⟩
          ·
           rw [if_neg c21] at H
           have c21b0 : ((((rd_T62 l0_1 x4_2).f1).length : Int) == 64) = false := beq_eq_false_iff_ne.mpr c21
           have c21b1 : ((((rd_T62 l0_1 x4_2).f1).length : Int) != 64) = true := bne_iff_ne.mpr c21
           obtain rfl := Option.some.inj H
           have hcz23_0 := Rgn.cz0 BK408.out
           have hcz23_1 := Rgn.cz1 BK408.out
           have hfz23_0 := blk_frozen BK408.out 0
           have hfz23_1 := blk_frozen BK408.out 1
           have p410 : 0 ≤ (x4_2 : Int) := of_decide_eq_true (by first | (with_reducible assumption) | assumption)
           have q410 : x4_2 < (l0_1.length : Int) := of_decide_eq_true (by first | (with_reducible assumption) | assumption)
           obtain ⟨ad410, A410_1, c410_1, e410, hx410_0, hx410_1, hl410_1, hi410_1⟩ := at_T62 HR0_1.out x4_2 p410 q410
           cases e410
           replace hx410_0 := Rgn.hx HB.out hx410_0
           replace hx410_1 := Rgn.hx HB.out hx410_1
           have HR410_1 := Aside0.mk hi410_1
           have HC410_1 := Aside0.mk hl410_1
           clear hi410_1 hl410_1
           replace p410 := eq_true p410
           replace q410 := eq_true q410
           have p411 : 0 ≤ (x4_2 : Int) := of_decide_eq_true (by first | (with_reducible assumption) | assumption)
           have q411 : x4_2 < (l0_1.length : Int) := of_decide_eq_true (by first | (with_reducible assumption) | assumption)
           obtain ⟨ad411, A411_1, c411_1, e411, hx411_0, hx411_1, hl411_1, hi411_1⟩ := at_T62 HR0_1.out x4_2 p411 q411
           obtain rfl : ad410 = ad411 := (by injection e411)
           replace hx411_0 := Rgn.hx HB.out hx411_0
           replace hx411_1 := Rgn.hx HB.out hx411_1
           have HR411_1 := Aside0.mk hi411_1
           have HC411_1 := Aside0.mk hl411_1
           clear hi411_1 hl411_1
           replace p411 := eq_true p411
           replace q411 := eq_true q411
           have ea_ := Option.some.inj (hx410_1.symm.trans hx411_1)
           injection ea_ with ea_ en_ ec_
           subst ea_
           subst ec_
           clear en_
           have p412 : 0 ≤ (x4_2 : Int) := of_decide_eq_true (by first | (with_reducible assumption) | assumption)
           have q412 : x4_2 < (l0_1.length : Int) := of_decide_eq_true (by first | (with_reducible assumption) | assumption)
           obtain ⟨ad412, A412_1, c412_1, e412, hx412_0, hx412_1, hl412_1, hi412_1⟩ := at_T62 HR0_1.out x4_2 p412 q412
           obtain rfl : ad410 = ad412 := (by injection e412)
           replace hx412_0 := Rgn.hx HB.out hx412_0
           replace hx412_1 := Rgn.hx HB.out hx412_1
           have HR412_1 := Aside0.mk hi412_1
           have HC412_1 := Aside0.mk hl412_1
           clear hi412_1 hl412_1
           replace p412 := eq_true p412
           replace q412 := eq_true q412
           have ea_ := Option.some.inj (hx410_1.symm.trans hx412_1)
           injection ea_ with ea_ en_ ec_
           subst ea_
           subst ec_
           clear en_
           go_wp2
           go_ret
           exact ⟨by first | rfl | (simp [errW_none, errW_some] <;> rfl) | (simp [*, errW_none, errW_some] <;> rfl), Rgn.bq HB.out⟩
       ·
        rw [if_neg c16] at H
        exact absurd H (by simp)
      ·
       rw [if_neg c15] at H
       have c15b0 : decide (x4_2 < (l0_1.length : Int)) = false := decide_eq_false c15
       clear c15
       obtain rfl := Option.some.inj H
       have hcz24_0 := Rgn.cz0 BK408.out
       have hcz24_1 := Rgn.cz1 BK408.out
       have hfz24_0 := blk_frozen BK408.out 0
       have hfz24_1 := blk_frozen BK408.out 1
       go_wp2
       go_ret
       exact ⟨by first | rfl | (simp [errW_none, errW_some] <;> rfl) | (simp [*, errW_none, errW_some] <;> rfl), Rgn.bq HB.out⟩

/-! ### spec_l1Copy: function 75 -/
def spec_l1Copy.f (l0 : List Int) : Option (List Int) := (some (([] : List Int) : List Int)).bind fun y413 => (if y413.length + l0.length < 140737488355328 then (some (y413 ++ l0)) else (none))
set_option maxHeartbeats 8000000 in
set_option maxRecDepth 100000 in
theorem spec_l1Copy.calls (A0 : Option Addr) (c0 : Nat) (l0 : List Int) (r : List Int) (w : World) (hr0 : Kd.C (Kd.int .u8) w A0 l0.length l0) (hc0 : l0.length ≤ c0) (h : spec_l1Copy.f l0 = some r) :
  Calls Try.prog 75 #[.slice A0 l0.length c0] w fun e w' => ∃ v0_ : Value, e = .returned (v0_) ∧ Kd.R (Kd.int .u8) 5 w' w.heap.size (fun _ => True) v0_ r ∧ Below w.heap.size w w' := by
 have HR0 := Aside0.mk hr0
 have HC0 := Aside0.mk hc0
 clear hr0 hc0
 have HB := Aside0.mk (Below.refl w.heap.size w)
 have H : ((some (([] : List Int) : List Int)).bind fun y413 => (if y413.length + l0.length < 140737488355328 then (some (y413 ++ l0)) else (none))) = some r := h
 clear h
 obtain ⟨y413, hy413⟩ : ∃ y_ : List Int, y_ = (([] : List Int)) := ⟨_, rfl⟩
 replace H : (if y413.length + l0.length < 140737488355328 then (some (y413 ++ l0)) else (none)) = some r := by first | (rw [hy413]; with_reducible exact H) | (have H2_ := (Option.bind_some _ _).symm.trans H; rw [hy413]; with_reducible exact H2_) | (have H2_ := (Option.bind_some _ _).symm.trans H; with_reducible exact H2_) | with_reducible exact H | (rw [hy413]; exact H) | exact H
 have Ny413 := Aside0.mk hy413
 clear hy413
 by_cases c2 : y413.length + l0.length < 140737488355328
 ·
  rw [if_pos c2] at H
  have LMc2 := Aside0.mk c2
  clear c2
  obtain ⟨y416, hy416⟩ : ∃ y_ : List Int, y_ = (y413 ++ l0) := ⟨_, rfl⟩
  replace H : (some y416) = some r := by first | (rw [hy416]; with_reducible exact H) | (have H2_ := (Option.bind_some _ _).symm.trans H; rw [hy416]; with_reducible exact H2_) | (have H2_ := (Option.bind_some _ _).symm.trans H; with_reducible exact H2_) | with_reducible exact H | (rw [hy416]; exact H) | exact H
  have Ny416 := Aside0.mk hy416
  clear hy416
  obtain rfl := Option.some.inj H
  go_enter Try.func75, Try.ntmps75
  go_wp2_with (first | ((with_reducible refine gate_dst (N := 3) rfl ?_); refine Kd.R_lit (Kd.int .u8) _ 5 ?hg (N := 3) ?hd (xs := ([] : List Int)) (inner := []) (ok := fun _ => True) (okp := fun _ => True) ?hr ?hp (fun _ hk => hk) trivial (Below.refl _ _) (Nat.le_refl _) (by simp) ?_; (case hd => rfl); (case hg => rfl); (case hr => first | (go_simp; done) | (go_simp; rfl)); (case hp => exact (Reps.none _ _)); intro v414 w3 ho4 hb hg_ hnew_; clear hg_ hnew_; (first | rw [← Ny413.out] at ho4 | (simp only [Int.reduceToNat] at ho4; rw [← Ny413.out] at ho4)); have HO415 := Aside0.mk (Kd.R_lower ho4 (below_size (Rgn.bq HB.out))); replace HB := Aside0.mk (below_step (Rgn.bq HB.out) hb); clear hb ho4) | ((with_reducible refine gate_builtin (b := .append) (xs := #[.tmp 3, .tmp 4]) rfl ?_); at_builtin; refine Kd.R_append_rows (Kd.int .u8) (w0 := w) w.heap.size rfl (.tmp 3) (.tmp 4) 22 5 (.int .u8 0) 1 rfl Try.underlying22 info5 rfl (by decide) (by omega) v414 y413 l0 _ _ _ (fun _ => True) (fun _ => False) rfl rfl ?aO ?aR (fun _ _ h => h) (fun _ h => h.elim) ?aF ?aB ?aS ?aL ?_; (case aR => exact Rgn.cq (Kd.C_below HR0.out HB.out)); (case aB => exact (Rgn.bq HB.out)); (case aF => exact (fun _ _ => trivial)); (case aO => exact (Rgn.rq HO415.out)); (case aS => exact (below_size (Rgn.bq HB.out))); (case aL => have := LMc2.out; omega); intro v417 w5 ho hb hg hat; rw [← Ny416.out] at ho; replace HB := Aside0.mk (hb); have HO418 := Aside0.mk (ho); clear HO415; clear ho hb hg hat))
  go_ret
  exact ⟨_, by first | rfl | (simp [errW_none, errW_some] <;> rfl) | (simp [*, errW_none, errW_some] <;> rfl), Rgn.rq HO418.out, Rgn.bq HB.out⟩
 ·
  rw [if_neg c2] at H
  exact absurd H (by simp)

/-! ### spec_l1CopyDisk: function 78 -/
def spec_l1CopyDisk.l0 : Nat → Int → List Int → List (S62) → List Int → List (S62) → Option (List Int × (List (S62)))
 | 0, _, _, _, _, _ => none
 | k + 1, x4, x420000, x420001, x425000, x425001 => if x4 < (x420001.length : Int) then (if 0 ≤ x4 then ((spec_l1Copy.f ((rd_T62 x420001 x4).f1)).bind fun t427 => (if x425001.length < 4398046511104 then (spec_l1CopyDisk.l0 k (wrap64 (x4 + 1)) x420000 x420001 x425000 (x425001 ++ [(⟨(rd_T62 x420001 x4).f0, t427⟩ : S62)])) else (none))) else (none)) else (some (x425000, x425001))
def spec_l1CopyDisk.f (k : Nat) (l0_0 : List Int) (l0_1 : List (S62)) : Option (List Int × (List (S62))) := (spec_l1Copy.f l0_0).bind fun t421 => (spec_l1CopyDisk.l0 k 0 l0_0 l0_1 t421 ([] : List (S62)))
def spec_l1CopyDisk.T5 : Bool × List (List Nat × List Nat) := (true, [([], []), ([0], [0]), ([], []), ([2], [2]), ([], []), ([3, 4], [3, 4]), ([5], [5]), ([6], [6]), ([], []), ([8], [8]), ([], []), ([9, 10], [9, 10]), ([11], [11]), ([12], [12]), ([13], [13]), ([7, 14], [7, 14]), ([15], [15]), ([1, 16, 14], [1, 16]), ([0, 1, 2, 3, 4, 5, 6, 7, 8, 9, 10, 11, 12, 13, 14, 15, 16, 17], []), ([18, 17, 17, 0, 1, 2, 3, 4, 5, 6, 7, 8, 9, 10, 11, 12, 13, 14, 15, 16, 17], [17, 18])])
def spec_l1CopyDisk.B5 : List Nat := [0, 1, 0, 4, 0, 28, 60, 124, 0, 256, 0, 1792, 3840, 7936, 16128, 32764, 65532, 131071, 262143, 524287]
theorem spec_l1CopyDisk.tab5 : rtab .any (opsOf Try.f78 5) = spec_l1CopyDisk.T5 := by kernel_rfl
theorem spec_l1CopyDisk.bits5 : waitsOk spec_l1CopyDisk.T5.2 spec_l1CopyDisk.B5 = true := by kernel_rfl
set_option maxHeartbeats 8000000 in
set_option maxRecDepth 100000 in
theorem spec_l1CopyDisk.calls (k : Nat) (A0_0 : Option Addr) (c0_0 : Nat) (l0_0 : List Int) (A0_1 : Option Addr) (c0_1 : Nat) (l0_1 : List (S62)) (r1 : List Int) (r2 : List (S62)) (w : World) (hr0_0 : Kd.C (Kd.int .u8) w A0_0 l0_0.length l0_0) (hc0_0 : l0_0.length ≤ c0_0) (hr0_1 : Kd.C k62 w A0_1 l0_1.length l0_1) (hc0_1 : l0_1.length ≤ c0_1) (h : spec_l1CopyDisk.f k l0_0 l0_1 = some (r1, r2)) :
  Calls Try.prog 78 #[.agg #[.slice A0_0 l0_0.length c0_0, .slice A0_1 l0_1.length c0_1]] w fun e w' => ∃ v0_ v1_ : Value, e = .returned (.agg #[v0_, v1_]) ∧ Kd.R (Kd.int .u8) 5 w' w.heap.size (fun _ => True) v0_ r1 ∧ Kd.S k62 62 w' w.heap.size (fun k_ => some k_ ≠ (v0_ : Value).ownBlock) v1_ r2 ∧ Below w.heap.size w w' := by
 have hu29 := Try.underlying29
 have hu62 := Try.underlying62
 have HR0_0 := Aside0.mk hr0_0
 have HC0_0 := Aside0.mk hc0_0
 clear hr0_0 hc0_0
 have HR0_1 := Aside0.mk hr0_1
 have HC0_1 := Aside0.mk hc0_1
 clear hr0_1 hc0_1
 have HB := Aside0.mk (Below.refl w.heap.size w)
 have H : ((spec_l1Copy.f l0_0).bind fun t421 => (spec_l1CopyDisk.l0 k 0 l0_0 l0_1 t421 ([] : List (S62)))) = some (r1, r2) := h
 clear h
 replace H := Option.bind_eq_some_iff.mp H
 obtain ⟨t421, A20, H⟩ := H
 replace H : (spec_l1CopyDisk.l0 k 0 l0_0 l0_1 t421 ([] : List (S62))) = some (r1, r2) := H
 have A2 := Aside0.mk A20
 clear A20
 have H' := Aside0.mk H
 clear H
 go_enter Try.func78, Try.ntmps78
 go_wp2_with (first | ((with_reducible refine gate_dst (N := 1) rfl ?_); refine Rgn.bx 1 #[.slice A0_0 l0_0.length c0_0, .slice A0_1 l0_1.length c0_1] 29 ?_; intro gb419 hg w3 hbox hb; have BK419 := Aside0.mk (hbox); have GW419 := Aside0.mk (Rgn.ge hg HB.out); have GE419 := Aside0.mk (Rgn.ge hg HB.out); replace HB := Aside0.mk (below_step (Rgn.bq HB.out) hb); clear hb hbox hg) | ((with_reducible refine gate_dst (N := 2) rfl ?_); refine Rgn.bx 2 #[.slice none 0 0, .slice none 0 0] 29 ?_; intro gb420 hg w4 hbox hb; have BK420 := Aside0.mk (hbox); have GW420 := Aside0.mk (Rgn.ge hg HB.out); have GE420 := Aside0.mk (Rgn.ge hg HB.out); replace HB := Aside0.mk (below_step (Rgn.bq HB.out) hb); have NB419_420 := Aside0.mk (Rgn.nl hg BK419.out); have NB420_419 := Aside0.mk (Rgn.ng hg BK419.out); replace BK419 := Aside0.mk (Rgn.bb BK419.out hb); clear hb hbox hg; have hnb5 := NB419_420.out; have hnc5 := NB420_419.out; obtain ⟨hcz6_0, hcz6_1, hfz6_0, hfz6_1⟩ := Rgn.c2 BK419.out) | ((with_reducible refine gate_callee (f := 75) rfl ?_); refine Rgn.gl (some 7) Try.func75 #[.slice A0_0 l0_0.length c0_0] ?_; (with_reducible refine (spec_l1Copy.calls _ _ l0_0 t421 _ ?side1 ?side2 A2.out).mono ?_); (case side1 => exact Rgn.cq (Kd.C_below HR0_0.out HB.out)); (case side2 => exact HC0_0.out); rintro e w7 ⟨v422, rfl, ho0, hb⟩; refine ⟨_, rfl, ?_⟩; have HO423 := Aside0.mk (Kd.R_lower ho0 (below_size (Rgn.bq HB.out))); replace BK419 := Aside0.mk (Rgn.bb BK419.out hb); replace BK420 := Aside0.mk (Rgn.bb BK420.out hb); replace HB := Aside0.mk (below_step (Rgn.bq HB.out) hb); (try clear hb); (try clear ho0); obtain ⟨Ao8, co8, eo8⟩ := Kd.R_slice HO423.out; subst eo8) | ((with_reducible refine gate_dst (N := 3) rfl ?_); refine Rgn.bx 3 #[.slice none 0 0, .slice none 0 0] 29 ?_; intro gb424 hg w9 hbox hb; replace HO423 := Aside0.mk (Kd.R_below (Rgn.rq HO423.out) hb); have BK424 := Aside0.mk (hbox); have GW424 := Aside0.mk (Rgn.ge hg HB.out); have GE424 := Aside0.mk (Rgn.ge hg HB.out); replace HB := Aside0.mk (below_step (Rgn.bq HB.out) hb); have NB419_424 := Aside0.mk (Rgn.nl hg BK419.out); have NB424_419 := Aside0.mk (Rgn.ng hg BK419.out); replace BK419 := Aside0.mk (Rgn.bb BK419.out hb); have NB420_424 := Aside0.mk (Rgn.nl hg BK420.out); have NB424_420 := Aside0.mk (Rgn.ng hg BK420.out); replace BK420 := Aside0.mk (Rgn.bb BK420.out hb); clear hb hbox hg; have hnb10 := NB424_419.out; have hnc10 := NB419_424.out; have hnb11 := NB424_420.out; have hnc11 := NB420_424.out; obtain ⟨hcz12_0, hcz12_1, hfz12_0, hfz12_1⟩ := Rgn.c2 BK424.out))
 go_loopg [4] k (fun kq v4 w' => ∃ (x4_1 : Int) (x425001_1 : List (S62)) (u425001 : Value), v4 = .int .i64 x4_1 ∧ Aside0 (spec_l1CopyDisk.l0 kq x4_1 l0_0 l0_1 t421 x425001_1 = some (r1, r2)) ∧ Aside0 (kq ≤ k) ∧ Aside0 (Kd.R (Kd.int .u8) 5 w' w.heap.size (fun _ => True) (.slice Ao8 t421.length co8) t421) ∧ Aside0 (Kd.S k62 62 w' w.heap.size (fun k_ => some k_ ≠ ((.slice Ao8 t421.length co8) : Value).ownBlock) u425001 x425001_1) ∧ Aside0 (w'.heap[gb419]? = some (.cells #[(.slice A0_0 l0_0.length c0_0), (.slice A0_1 l0_1.length c0_1)] 29 (0, 0))) ∧ Aside0 (w'.heap[gb420]? = some (.cells #[(.slice none 0 0), (.slice none 0 0)] 29 (0, 0))) ∧ Aside0 (w'.heap[gb424]? = some (.cells #[(.slice Ao8 t421.length co8), u425001] 29 (0, 0))) ∧ Aside0 (Below w.heap.size w w'))
 case atStart => exact ⟨(0), (([] : List (S62))), (.slice none 0 0), (by first | rfl | (simp; done) | (simp [*]; done)), H', ⟨Nat.le_refl _⟩, ⟨by (with_reducible repeat (first | apply Kd.R_alloc | apply Kd.R_drewN | apply Kd.R_drew)); exact Kd.R_mono (Kd.R_far (p := ⟨gb424, 1, none⟩) (Kd.R_far (p := ⟨gb424, 0, none⟩) (Kd.R_types HO423.out BK424.out (by decide)) (fun _ hk => hk.2) (.slice Ao8 t421.length co8)) (fun _ hk => hk.2) (.slice none 0 0)) (fun _ hk => trivial)⟩, ⟨by first | exact Kd.S_nil _ _ _ _ _ | exact Kd.N_nil _ _ _ _ _ | exact Kd.V_nil _ _ _ _ _ | exact Kd.Q_nil _ _ _ _ _ | exact Kd.R_nil _ _ _ _ _⟩, ⟨Rgn.kf BK419.out⟩, ⟨Rgn.kf BK420.out⟩, ⟨by (with_reducible repeat (first | refine blk_drewN ?_ _ | refine blk_drew ?_ | refine blk_alloc ?_ _)); refine blk_put (cs := #[.slice Ao8 t421.length co8, .slice none 0 0]) ?_ 1 _ rfl; (with_reducible repeat (first | refine blk_drewN ?_ _ | refine blk_drew ?_ | refine blk_alloc ?_ _)); refine blk_put (cs := #[.slice none 0 0, .slice none 0 0]) ?_ 0 _ rfl; (with_reducible repeat (first | refine blk_drewN ?_ _ | refine blk_drew ?_ | refine blk_alloc ?_ _)); exact BK424.out⟩, ⟨Rgn.bq HB.out⟩⟩
 case round =>
  clear H'
  try clear c1
  try clear p2
  try clear c5
  try clear c7
  try clear c10
  try clear c11
  try clear hcz12_0 hcz12_1
  try clear hcz6_0 hcz6_1
  try clear hfz12_0 hfz12_1
  try clear hfz6_0 hfz6_1
  obtain ⟨x4_1, x425001_1, u425001, rfl, HA, HK1, HO_425000, HO_425001, BK419, BK420, BK424, HB⟩ := hrel
  cases gk with
  | zero => exact absurd HA.out (by simp [spec_l1CopyDisk.l0])
  | succ k1 =>
   have H := HA.out
   clear HA
   simp only [spec_l1CopyDisk.l0] at H
   by_cases c13 : x4_1 < (l0_1.length : Int)
   ·
    rw [if_pos c13] at H
    have c13b0 : decide (x4_1 < (l0_1.length : Int)) = true := decide_eq_true c13
    clear c13
    by_cases c14 : 0 ≤ x4_1
    ·
     rw [if_pos c14] at H
     have c14b0 : decide (0 ≤ x4_1) = true := decide_eq_true c14
     clear c14
     replace H := Option.bind_eq_some_iff.mp H
     obtain ⟨t427, A150, H⟩ := H
     replace H : (if x425001_1.length < 4398046511104 then (spec_l1CopyDisk.l0 k1 (wrap64 (x4_1 + 1)) l0_0 l0_1 t421 (x425001_1 ++ [(⟨(rd_T62 l0_1 x4_1).f0, t427⟩ : S62)])) else (none)) = some (r1, r2) := H
     have A15 := Aside0.mk A150
     clear A150
     by_cases c16 : x425001_1.length < 4398046511104
     ·
      rw [if_pos c16] at H
      have LMc16 := Aside0.mk c16
      clear c16
      obtain ⟨y430, hy430⟩ : ∃ y_ : List (S62), y_ = (x425001_1 ++ [(⟨(rd_T62 l0_1 x4_1).f0, t427⟩ : S62)]) := ⟨_, rfl⟩
      replace H : (spec_l1CopyDisk.l0 k1 (wrap64 (x4_1 + 1)) l0_0 l0_1 t421 y430) = some (r1, r2) := by first | (rw [hy430]; with_reducible exact H) | (have H2_ := (Option.bind_some _ _).symm.trans H; rw [hy430]; with_reducible exact H2_) | (have H2_ := (Option.bind_some _ _).symm.trans H; with_reducible exact H2_) | with_reducible exact H | (rw [hy430]; exact H) | exact H
      have Ny430 := Aside0.mk hy430
      clear hy430
      have H' := Aside0.mk H
      clear H
      have hnb17 := NB419_420.out
      have hnc17 := NB420_419.out
      have hnb18 := NB419_424.out
      have hnc18 := NB424_419.out
      have hcz19_0 := Rgn.cz0 BK419.out
      have hcz19_1 := Rgn.cz1 BK419.out
      have hfz19_0 := blk_frozen BK419.out 0
      have hfz19_1 := blk_frozen BK419.out 1
      try go_wp2
      replace HO_425000 := Aside0.mk (Kd.R_drew HO_425000.out)
      replace HO_425001 := Aside0.mk (Kd.S_drew HO_425001.out)
      replace BK419 := Aside0.mk (blk_drew BK419.out)
      replace BK420 := Aside0.mk (blk_drew BK420.out)
      replace BK424 := Aside0.mk (blk_drew BK424.out)
      replace HB := Aside0.mk (below_drew1 HB.out)
      have p425 : 0 ≤ (x4_1 : Int) := of_decide_eq_true (by first | (with_reducible assumption) | assumption)
      have q425 : x4_1 < (l0_1.length : Int) := of_decide_eq_true (by first | (with_reducible assumption) | assumption)
      obtain ⟨ad425, A425_1, c425_1, e425, hx425_0, hx425_1, hl425_1, hi425_1⟩ := at_T62 HR0_1.out x4_1 p425 q425
      have hw425_1 := hx425_1
      have hw425_0 := hx425_0
      cases e425
      replace hx425_0 := Rgn.hx HB.out hx425_0
      replace hx425_1 := Rgn.hx HB.out hx425_1
      have HR425_1 := Aside0.mk hi425_1
      have HC425_1 := Aside0.mk hl425_1
      clear hi425_1 hl425_1
      replace p425 := eq_true p425
      replace q425 := eq_true q425
      have p426 : 0 ≤ (x4_1 : Int) := of_decide_eq_true (by first | (with_reducible assumption) | assumption)
      have q426 : x4_1 < (l0_1.length : Int) := of_decide_eq_true (by first | (with_reducible assumption) | assumption)
      obtain ⟨ad426, A426_1, c426_1, e426, hx426_0, hx426_1, hl426_1, hi426_1⟩ := at_T62 HR0_1.out x4_1 p426 q426
      have hw426_1 := hx426_1
      have hw426_0 := hx426_0
      obtain rfl : ad425 = ad426 := (by injection e426)
      replace hx426_0 := Rgn.hx HB.out hx426_0
      replace hx426_1 := Rgn.hx HB.out hx426_1
      have HR426_1 := Aside0.mk hi426_1
      have HC426_1 := Aside0.mk hl426_1
      clear hi426_1 hl426_1
      replace p426 := eq_true p426
      replace q426 := eq_true q426
      have ea_ := Option.some.inj (hx425_1.symm.trans hx426_1)
      injection ea_ with ea_ en_ ec_
      subst ea_
      subst ec_
      clear en_
      refine start_ (n := 20) (S := fun w' => w'.cell? ⟨gb424, 0, none⟩ = some (.slice Ao8 t421.length co8) ∧ w'.cell? ⟨gb424, 1, none⟩ = some (u425001) ∧ w'.cell? ⟨gb419, 0, none⟩ = some (.slice A0_0 l0_0.length c0_0) ∧ w'.cell? ⟨gb419, 1, none⟩ = some (.slice (some ad425) l0_1.length c0_1) ∧ w'.cell? (ad425.add ((x4_1).toNat * 2)) = some (.int .i64 ((rd_T62 l0_1 x4_1).f0)) ∧ w'.cell? ⟨(ad425.add ((x4_1).toNat * 2)).block, (ad425.add ((x4_1).toNat * 2)).off + 1, none⟩ = some (.slice A425_1 ((rd_T62 l0_1 x4_1).f1).length c425_1) ∧ w'.cell? (ad425.add ((x4_1).toNat * 2)) = some (.int .i64 ((rd_T62 l0_1 x4_1).f0)) ∧ w'.cell? ⟨(ad425.add ((x4_1).toNat * 2)).block, (ad425.add ((x4_1).toNat * 2)).off + 1, none⟩ = some (.slice A425_1 ((rd_T62 l0_1 x4_1).f1).length c425_1)) (ds := [19]) #[false, false, false, false, false, false, false, false, false, false, false, false, false, false, false, false, false, false, false, false] (by kernel_rfl) rfl rfl ⟨(blk_cell BK424.out 0).trans rfl, (blk_cell BK424.out 1).trans rfl, (blk_cell BK419.out 0).trans rfl, (blk_cell BK419.out 1).trans rfl, ((HB.out.cell (World.block_lt_of_cell? w _ hw425_0)).trans hw425_0), ((HB.out.cell (World.block_lt_of_cell? w _ hw425_1)).trans hw425_1), ((HB.out.cell (World.block_lt_of_cell? w _ hw426_0)).trans hw426_0), ((HB.out.cell (World.block_lt_of_cell? w _ hw426_1)).trans hw426_1)⟩ (fun hHeld => ?_); refine with_tabW spec_l1CopyDisk.tab5 spec_l1CopyDisk.bits5 (fun HT_ HW_ => ?_)
      generalize wr.drew = w20 at HO_425000 HO_425001 BK419 BK420 BK424 HB HR425_1 HR426_1 hx425_0 hx425_1 hx426_0 hx426_1 hHeld ⊢
      refine Rgn.pu HT_.out 0 16 ?_
      refine Rgn.pu HT_.out 2 18 ?_
      refine Rgn.pu HT_.out 4 20 ?_
      refine Rgn.pu HT_.out 8 24 ?_
      refine Rgn.pu HT_.out 10 26 ?_
      refine Rgn.tk HT_.out HW_.out 1 17 hHeld ?_
      refine Rgn.tk HT_.out HW_.out 3 19 hHeld ?_
      refine Rgn.pu HT_.out 5 21 ?_
      refine Rgn.pu HT_.out 6 22 ?_
      refine Rgn.tk HT_.out HW_.out 7 23 hHeld ?_
      refine Rgn.tk HT_.out HW_.out 9 25 hHeld ?_
      refine Rgn.pu HT_.out 11 27 ?_
      refine Rgn.pu HT_.out 12 28 ?_
      refine Rgn.tk HT_.out HW_.out 13 29 hHeld ?_
      refine one_ (i := 14) (N := some 30) #[true, true, true, true, true, true, true, true, true, true, true, true, true, true, true, false, false, false, false, false] rfl rfl (one_of HT_.out (by kernel_rfl)) (by decide) (fun K hK => ?_)
      refine Rgn.gs Try.func75 #[.slice A425_1 ((rd_T62 l0_1 x4_1).f1).length c425_1] ?_
      with_reducible refine (spec_l1Copy.calls _ _ ((rd_T62 l0_1 x4_1).f1) t427 _ ?side1 ?side2 A15.out).mono ?_
      (case side1 => exact Rgn.cq (Kd.C_below HR426_1.out HB.out))
      (case side2 => exact HC426_1.out)
      rintro e w21 ⟨v428, rfl, ho0, hb⟩
      refine ⟨_, rfl, ?_⟩
      replace HO_425001 := Aside0.mk (Kd.S_elder' (Rgn.sq HO_425001.out) (Kd.R_base ho0) hb)
      have HO429 := Aside0.mk (Kd.R_lower (Kd.R_new' ho0 (Kd.R_lt (Rgn.rq HO_425000.out))) (below_size (Rgn.bq HB.out)))
      replace HO_425000 := Aside0.mk (Kd.R_elder' (Rgn.rq HO_425000.out) (Kd.R_base ho0) hb)
      replace BK419 := Aside0.mk (Rgn.bb BK419.out hb)
      replace BK420 := Aside0.mk (Rgn.bb BK420.out hb)
      replace BK424 := Aside0.mk (Rgn.bb BK424.out hb)
      replace HB := Aside0.mk (below_step (Rgn.bq HB.out) hb)
      (try clear hb)
      skip
      skip
      skip
      (try clear ho0)
      obtain ⟨Ao22, co22, eo22⟩ := Kd.R_slice HO429.out
      (first | subst eo22 | (injection eo22 with f1_ f2_ f3_; have f4_ := f1_.symm; have f5_ := f3_.symm; clear f1_ f2_ f3_; subst f4_; subst f5_))
      refine hK.out _ _ ⟨(blk_cell BK424.out 0).trans rfl, (blk_cell BK424.out 1).trans rfl, (blk_cell BK419.out 0).trans rfl, (blk_cell BK419.out 1).trans rfl, ((HB.out.cell (World.block_lt_of_cell? w _ hw425_0)).trans hw425_0), ((HB.out.cell (World.block_lt_of_cell? w _ hw425_1)).trans hw425_1), ((HB.out.cell (World.block_lt_of_cell? w _ hw426_0)).trans hw426_0), ((HB.out.cell (World.block_lt_of_cell? w _ hw426_1)).trans hw426_1)⟩ (fun hHeld => ?_)
      clear hK K
      refine norm_ (a' := ?_) ?_ ?_
      rotate_left
      ·
       show Act.put _ (some 30) _ = _
       simp only [Act.put, List.setIfInBounds_toArray, List.set_cons_zero, List.set_cons_succ, i64_w, i32_w]
       rfl
      refine Rgn.pu HT_.out 15 31 ?_
      refine one_ (i := 16) (N := some 32) #[true, true, true, true, true, true, true, true, true, true, true, true, true, true, true, true, true, false, false, false] rfl rfl (one_of HT_.out (by kernel_rfl)) (by decide) (fun K hK => ?_)
      refine value_ (w1 := ?_) (v := ?_) (by rfl) rfl ?_ ?_
      rotate_left 2
      ·
       go_simp
       constructor
       ·
        rfl
       ·
        rfl
      refine hK.out _ _ ⟨(blk_cell (blk_alloc BK424.out _) 0).trans rfl, (blk_cell (blk_alloc BK424.out _) 1).trans rfl, (blk_cell (blk_alloc BK419.out _) 0).trans rfl, (blk_cell (blk_alloc BK419.out _) 1).trans rfl, (World.cell?_alloc_lt _ _ _ (World.block_lt_of_cell? _ _ (((HB.out.cell (World.block_lt_of_cell? w _ hw425_0)).trans hw425_0)))).trans (((HB.out.cell (World.block_lt_of_cell? w _ hw425_0)).trans hw425_0)), (World.cell?_alloc_lt _ _ _ (World.block_lt_of_cell? _ _ (((HB.out.cell (World.block_lt_of_cell? w _ hw425_1)).trans hw425_1)))).trans (((HB.out.cell (World.block_lt_of_cell? w _ hw425_1)).trans hw425_1)), (World.cell?_alloc_lt _ _ _ (World.block_lt_of_cell? _ _ (((HB.out.cell (World.block_lt_of_cell? w _ hw426_0)).trans hw426_0)))).trans (((HB.out.cell (World.block_lt_of_cell? w _ hw426_0)).trans hw426_0)), (World.cell?_alloc_lt _ _ _ (World.block_lt_of_cell? _ _ (((HB.out.cell (World.block_lt_of_cell? w _ hw426_1)).trans hw426_1)))).trans (((HB.out.cell (World.block_lt_of_cell? w _ hw426_1)).trans hw426_1))⟩ (fun hHeld => ?_)
      clear hK K
      refine norm_ (a' := ?_) ?_ ?_
      rotate_left
      ·
       show Act.put _ (some 32) _ = _
       simp only [Act.put, List.setIfInBounds_toArray, List.set_cons_zero, List.set_cons_succ, i64_w, i32_w]
       rfl
      refine one_ (i := 17) (N := some 33) #[true, true, true, true, true, true, true, true, true, true, true, true, true, true, true, true, true, true, false, false] rfl rfl (one_of HT_.out (by kernel_rfl)) (by decide) (fun K hK => ?_)
      refine Kd.S_append_step k62 (w0 := w) w.heap.size (by rfl) (.tmp 17) (.tmp 32) 27 62 (.agg #[(.int .i64 0), (.slice none 0 0)]) 32 rfl Try.underlying27 info62 rfl (by decide) (by omega) u425001 x425001_1 (⟨(rd_T62 l0_1 x4_1).f0, t427⟩ : S62) [.int .i64 ((rd_T62 l0_1 x4_1).f0), .slice Ao22 t427.length co22] (fun k_ => some k_ ≠ (.slice Ao8 t421.length co8 : Value).ownBlock) (fun k_ => some k_ = (.slice Ao22 t427.length co22 : Value).ownBlock) rfl rfl ?aP (fun k_ hk_ => ((Kd.R_mono (ok' := fun k_ => ((fun k_ => some k_ ≠ (.slice Ao8 t421.length co8 : Value).ownBlock)) k_ ∧ some k_ ≠ (u425001 : Value).ownBlock) (Kd.R_apart' (HO429.out) (Kd.S_typed HO_425001.out) (by decide)) (fun k_ hk => ⟨hk.1.2, hk.2⟩))).1 k_ hk_.symm) ?aF ?aO ?aB ?aS ?aL ?_
      (case aP => exact k62_mkM _ _ _ (⟨(rd_T62 l0_1 x4_1).f0, t427⟩ : S62) (Kd.R_mono (Kd.R_tight rfl (Kd.R_mono (ok' := fun k_ => ((fun k_ => some k_ ≠ (.slice Ao8 t421.length co8 : Value).ownBlock)) k_ ∧ some k_ ≠ (u425001 : Value).ownBlock) (Kd.R_apart' (HO429.out) (Kd.S_typed HO_425001.out) (by decide)) (fun k_ hk => ⟨hk.1.2, hk.2⟩))) (fun _ h_ => h_)))
      (case aB => exact (Rgn.bq HB.out))
      (case aF => exact (fun k_ hk => Kd.fresh' (Kd.R_lt (Rgn.rq HO_425000.out)) k_ hk))
      (case aO => exact (Rgn.sq (Kd.S_mono HO_425001.out (fun k_ hk => ⟨hk.1, fun e_ => hk.2 e_⟩))))
      (case aS => exact (below_size (Rgn.bq HB.out)))
      (case aL => have := LMc16.out; omega)
      intro v431 w23 ho hb hg hat
      rw [← Ny430.out] at ho
      replace HO_425000 := Aside0.mk (Kd.R_over' (Rgn.rq HO_425000.out) (Kd.S_typed (Rgn.sq HO_425001.out)) (by decide) hg)
      replace BK419 := Aside0.mk (Rgn.bg BK419.out hg (Kd.S_ne HO_425001.out BK419.out (by decide)))
      replace BK420 := Aside0.mk (Rgn.bg BK420.out hg (Kd.S_ne HO_425001.out BK420.out (by decide)))
      replace BK424 := Aside0.mk (Rgn.bg BK424.out hg (Kd.S_ne HO_425001.out BK424.out (by decide)))
      replace HB := Aside0.mk (hb)
      have HO432 := Aside0.mk (ho)
      clear HO429 HO_425001
      clear ho hb hg hat
      obtain ⟨Ao24, co24, eo24⟩ := Kd.S_slice HO432.out
      (first | subst eo24 | (injection eo24 with f1_ f2_ f3_; have f4_ := f1_.symm; have f5_ := f3_.symm; clear f1_ f2_ f3_; subst f4_; subst f5_))
      refine hK.out _ _ ⟨(blk_cell BK424.out 0).trans rfl, (blk_cell BK424.out 1).trans rfl, (blk_cell BK419.out 0).trans rfl, (blk_cell BK419.out 1).trans rfl, ((HB.out.cell (World.block_lt_of_cell? w _ hw425_0)).trans hw425_0), ((HB.out.cell (World.block_lt_of_cell? w _ hw425_1)).trans hw425_1), ((HB.out.cell (World.block_lt_of_cell? w _ hw426_0)).trans hw426_0), ((HB.out.cell (World.block_lt_of_cell? w _ hw426_1)).trans hw426_1)⟩ (fun hHeld => ?_)
      clear hK K
      refine norm_ (a' := ?_) ?_ ?_
      rotate_left
      ·
       show Act.put _ (some 33) _ = _
       simp only [Act.put, List.setIfInBounds_toArray, List.set_cons_zero, List.set_cons_succ, i64_w, i32_w]
       rfl
      refine Rgn.pu HT_.out 18 34 ?_
      refine last_ (i := 19) (N := none) #[true, true, true, true, true, true, true, true, true, true, true, true, true, true, true, true, true, true, true, true] rfl rfl (one_of HT_.out (by kernel_rfl)) (by decide) (fun K hK => ?_)
      have hs25 : w23.cell? ⟨gb424, 1, none⟩ = some (u425001) := (blk_cell BK424.out 1).trans rfl
      have hfs25 := blk_frozen BK424.out 1
      have hns25_0 := NB419_424.out
      have hns25_1 := NB420_424.out
      have hms25_0 := NB424_419.out
      have hms25_1 := NB424_420.out
      refine skip_ (w1 := ?_) (by rfl) rfl ?_ ?_
      rotate_left
      ·
       go_simp
       rfl
      refine hK.out _ _ ?_
      clear hK K
      refine done_ (done_of HT_.out (by kernel_rfl)) ?_
      try go_wp2
      go_roundg k1
      case measure => have := HK1.out; omega
      case rel => exact ⟨(wrap64 (x4_1 + 1)), (y430), (.slice Ao24 y430.length co24), (by first | rfl | (simp; done) | (simp [*]; done)), H', ⟨by have := HK1.out; omega⟩, ⟨by (with_reducible repeat (first | apply Kd.R_alloc | apply Kd.R_drewN | apply Kd.R_drew)); exact Kd.R_mono (Kd.R_far (p := ⟨gb424, 1, none⟩) (Kd.R_types HO_425000.out BK424.out (by decide)) (fun _ hk => hk.2) (.slice Ao24 y430.length co24)) (fun _ hk => trivial)⟩, ⟨by (with_reducible repeat (first | apply Kd.S_alloc | apply Kd.S_drewN | apply Kd.S_drew)); exact Kd.S_mono (Kd.S_far (p := ⟨gb424, 1, none⟩) (Kd.S_types HO432.out BK424.out (by decide)) (fun _ hk => hk.2) (.slice Ao24 y430.length co24)) (fun _ hk => hk.1)⟩, ⟨Rgn.kf BK419.out⟩, ⟨Rgn.kf BK420.out⟩, ⟨by (with_reducible repeat (first | refine blk_drewN ?_ _ | refine blk_drew ?_ | refine blk_alloc ?_ _)); refine blk_put (cs := #[.slice Ao8 t421.length co8, u425001]) ?_ 1 _ rfl; (with_reducible repeat (first | refine blk_drewN ?_ _ | refine blk_drew ?_ | refine blk_alloc ?_ _)); exact BK424.out⟩, ⟨Rgn.bq HB.out⟩⟩
     ·
      rw [if_neg c16] at H
      exact absurd H (by simp)
    ·
     rw [if_neg c14] at H
     exact absurd H (by simp)
   ·
    rw [if_neg c13] at H
    have c13b0 : decide (x4_1 < (l0_1.length : Int)) = false := decide_eq_false c13
    clear c13
    simp only [Option.some.injEq, Prod.mk.injEq] at H
    obtain ⟨rfl, rfl⟩ := H
    have hnb26 := NB419_420.out
    have hnc26 := NB420_419.out
    have hnb27 := NB419_424.out
    have hnc27 := NB424_419.out
    have hcz28_0 := Rgn.cz0 BK419.out
    have hcz28_1 := Rgn.cz1 BK419.out
    have hfz28_0 := blk_frozen BK419.out 0
    have hfz28_1 := blk_frozen BK419.out 1
    have hnb29 := NB424_420.out
    have hnc29 := NB420_424.out
    have hcz30_0 := Rgn.cz0 BK424.out
    have hcz30_1 := Rgn.cz1 BK424.out
    have hfz30_0 := blk_frozen BK424.out 0
    have hfz30_1 := blk_frozen BK424.out 1
    have hcz31_0 := Rgn.cz0 BK420.out
    have hcz31_1 := Rgn.cz1 BK420.out
    have hfz31_0 := blk_frozen BK420.out 0
    have hfz31_1 := blk_frozen BK420.out 1
    obtain ⟨Ao32, co32, eo32⟩ := Kd.S_slice HO_425001.out
    subst eo32
    go_wp2
    refine bodyPost_ret (results_cell_row rfl _ _ gb420 29 #[.slice Ao8 t421.length co8, .slice Ao32 x425001_1.length co32] (0, 0) _ rfl (by (with_reducible repeat (first | refine blk_drewN ?_ _ | refine blk_drew ?_ | refine blk_alloc ?_ _)); refine blk_put (cs := #[.slice Ao8 t421.length co8, .slice none 0 0]) ?_ 1 _ rfl; (with_reducible repeat (first | refine blk_drewN ?_ _ | refine blk_drew ?_ | refine blk_alloc ?_ _)); refine blk_put (cs := #[.slice none 0 0, .slice none 0 0]) ?_ 0 _ rfl; (with_reducible repeat (first | refine blk_drewN ?_ _ | refine blk_drew ?_ | refine blk_alloc ?_ _)); exact BK420.out) Try.underlying29 rfl (by kernel_rfl)) rfl ?_
    exact ⟨_, _, by first | rfl | (simp [errW_none, errW_some] <;> rfl) | (simp [*, errW_none, errW_some] <;> rfl), by (with_reducible repeat (first | apply Kd.R_alloc | apply Kd.R_drewN | apply Kd.R_drew)); exact Kd.R_mono (Kd.R_far (p := ⟨gb420, 1, none⟩) (Kd.R_far (p := ⟨gb420, 0, none⟩) (Kd.R_types HO_425000.out BK420.out (by decide)) (fun _ hk => hk.2) (.slice Ao8 t421.length co8)) (fun _ hk => hk.2) (.slice Ao32 x425001_1.length co32)) (fun _ hk => trivial), by (with_reducible repeat (first | apply Kd.S_alloc | apply Kd.S_drewN | apply Kd.S_drew)); exact Kd.S_mono (Kd.S_far (p := ⟨gb420, 1, none⟩) (Kd.S_far (p := ⟨gb420, 0, none⟩) (Kd.S_types HO_425001.out BK420.out (by decide)) (fun _ hk => hk.2) (.slice Ao8 t421.length co8)) (fun _ hk => hk.2) (.slice Ao32 x425001_1.length co32)) (fun _ hk => hk.1), Rgn.bq HB.out⟩

end Go.Proofs.Ytdhjhadcadcceaa.PFnDisk
