-- written by a program of this session (wip/src/print2.py)
import Derived.Test.YtdhjhadcadcceaaPFnDiskx0
import Derived.Test.YtdhjhadcadcceaaPFnDiskx1
import Derived.Test.YtdhjhadcadcceaaPFnDiskx7
namespace Go.Proofs.Ytdhjhadcadcceaa.PFnDisk
open Go.RowKit Go.Proofs.YtdhjhadcadcceaaW.PrintWords Go.Proofs.YtdhjhadcadcceaaW.PrintLast Go.Proofs.YtdhjhadcadcceaaW.PrintMore
attribute [local go_sem] max2_int min2_int max_two min_two max_three min_three max_four min_four   -- for this text's walks alone
set_option linter.unusedVariables false
set_option linter.unusedSimpArgs false

/-! ### impl_DiskFlush: function 34 -/

def impl_DiskFlush.l0 : Nat → List (S62) → Int → Int → List Int → Option (List Int × (List (S62)))
 | 0, _, _, _, _ => none
 | k + 1, x15, x16, x17, x136000 => if x17 < x16 then (if 0 ≤ x17 then (if x17 < (x15.length : Int) then ((impl_lay.f k x136000 (wrap64 (((rd_T62 x15 x17).f0) * 64)) ((rd_T62 x15 x17).f1)).bind fun t138 => (impl_DiskFlush.l0 k x15 x16 (wrap64 (x17 + 1)) t138)) else (none)) else (none)) else (some (x136000, ([] : List (S62))))
def impl_DiskFlush.f (k : Nat) (l0_0 : List Int) (l0_1 : List (S62)) : Option (List Int × (List (S62))) := (impl_ValidDisk.f k l0_0 l0_1).bind fun t131 => (if t131 = true then ((impl_cp.f l0_0).bind fun t132 => (impl_DiskFlush.l0 k l0_1 (l0_1.length : Int) 0 t132)) else (some (([] : List Int), ([] : List (S62)))))
def impl_DiskFlush.T7 : Bool × List (List Nat × List Nat) := (true, [([], []), ([0], [0]), ([], []), ([2], [2]), ([3], [3]), ([1, 4], [1, 4]), ([], []), ([6], [6]), ([5, 7], [5, 7])])
def impl_DiskFlush.B7 : List Nat := [0, 1, 0, 4, 12, 31, 0, 64, 255]
theorem impl_DiskFlush.tab7 : rtab .any (opsOf Try.f34 7) = impl_DiskFlush.T7 := by kernel_rfl
theorem impl_DiskFlush.bits7 : waitsOk impl_DiskFlush.T7.2 impl_DiskFlush.B7 = true := by kernel_rfl
set_option maxHeartbeats 8000000 in
set_option maxRecDepth 100000 in
theorem impl_DiskFlush.calls (k : Nat) (A0_0 : Option Addr) (c0_0 : Nat) (l0_0 : List Int) (A0_1 : Option Addr) (c0_1 : Nat) (l0_1 : List (S62)) (r1 : List Int) (r2 : List (S62)) (w : World) (hr0_0 : Kd.C (Kd.int .u8) w A0_0 l0_0.length l0_0) (hc0_0 : l0_0.length ≤ c0_0) (hr0_1 : Kd.C k62 w A0_1 l0_1.length l0_1) (hc0_1 : l0_1.length ≤ c0_1) (h : impl_DiskFlush.f k l0_0 l0_1 = some (r1, r2)) :
  Calls Try.prog 34 #[.agg #[.slice A0_0 l0_0.length c0_0, .slice A0_1 l0_1.length c0_1]] w fun e w' => ∃ v0_ v1_ : Value, e = .returned (.agg #[v0_, v1_]) ∧ Kd.R (Kd.int .u8) 5 w' w.heap.size (fun _ => True) v0_ r1 ∧ Kd.S k62 62 w' w.heap.size (fun k_ => some k_ ≠ (v0_ : Value).ownBlock) v1_ r2 ∧ Below w.heap.size w w' := by
 have hu29 := Try.underlying29
 have hu62 := Try.underlying62
 have HR0_0 := Aside0.mk hr0_0
 have HC0_0 := Aside0.mk hc0_0
 clear hr0_0 hc0_0
 have HR0_1 := Aside0.mk hr0_1
 have HC0_1 := Aside0.mk hc0_1
 clear hr0_1 hc0_1
 have HB := Aside0.mk (Below.refl w.heap.size w)
 have H : ((impl_ValidDisk.f k l0_0 l0_1).bind fun t131 => (if t131 = true then ((impl_cp.f l0_0).bind fun t132 => (impl_DiskFlush.l0 k l0_1 (l0_1.length : Int) 0 t132)) else (some (([] : List Int), ([] : List (S62)))))) = some (r1, r2) := h
 clear h
 replace H := Option.bind_eq_some_iff.mp H
 obtain ⟨t131, A20, H⟩ := H
 replace H : (if t131 = true then ((impl_cp.f l0_0).bind fun t132 => (impl_DiskFlush.l0 k l0_1 (l0_1.length : Int) 0 t132)) else (some (([] : List Int), ([] : List (S62))))) = some (r1, r2) := H
 have A2 := Aside0.mk A20
 clear A20
 by_cases c3 : t131 = true
 ·
  subst c3
  have H1 : ((impl_cp.f l0_0).bind fun t132 => (impl_DiskFlush.l0 k l0_1 (l0_1.length : Int) 0 t132)) = some (r1, r2) := by rw [if_pos rfl] at H; exact H
  clear H
  have H := H1
  clear H1
  replace H := Option.bind_eq_some_iff.mp H
  obtain ⟨t132, A40, H⟩ := H
  replace H : (impl_DiskFlush.l0 k l0_1 (l0_1.length : Int) 0 t132) = some (r1, r2) := H
  have A4 := Aside0.mk A40
  clear A40
  have H' := Aside0.mk H
  clear H
  go_enter Try.func34, Try.ntmps34
  go_wp2_with (first | ((with_reducible refine gate_dst (N := 1) rfl ?_); refine Rgn.bx 1 #[.slice A0_0 l0_0.length c0_0, .slice A0_1 l0_1.length c0_1] 29 ?_; intro gb129 hg w5 hbox hb; have BK129 := Aside0.mk (hbox); have GW129 := Aside0.mk (Rgn.ge hg HB.out); have GE129 := Aside0.mk (Rgn.ge hg HB.out); replace HB := Aside0.mk (below_step (Rgn.bq HB.out) hb); clear hb hbox hg) | ((with_reducible refine gate_dst (N := 2) rfl ?_); refine Rgn.bx 2 #[.slice none 0 0, .slice none 0 0] 29 ?_; intro gb130 hg w6 hbox hb; have BK130 := Aside0.mk (hbox); have GW130 := Aside0.mk (Rgn.ge hg HB.out); have GE130 := Aside0.mk (Rgn.ge hg HB.out); replace HB := Aside0.mk (below_step (Rgn.bq HB.out) hb); have NB129_130 := Aside0.mk (Rgn.nl hg BK129.out); have NB130_129 := Aside0.mk (Rgn.ng hg BK129.out); replace BK129 := Aside0.mk (Rgn.bb BK129.out hb); clear hb hbox hg; have hnb7 := NB129_130.out; have hnc7 := NB130_129.out; obtain ⟨hcz8_0, hcz8_1, hfz8_0, hfz8_1⟩ := Rgn.c2 BK129.out) | ((with_reducible refine gate_callee (f := 28) rfl ?_); refine Rgn.gl (some 7) Try.func28 #[.agg #[.slice A0_0 l0_0.length c0_0, .slice A0_1 l0_1.length c0_1]] ?_; (with_reducible refine (impl_ValidDisk.calls k _ _ l0_0 _ _ l0_1 true _ ?side1 ?side2 ?side3 ?side4 A2.out).mono ?_); (case side1 => exact Rgn.cq (Kd.C_below HR0_0.out HB.out)); (case side2 => exact HC0_0.out); (case side3 => exact Rgn.cq (Kd.C_below HR0_1.out HB.out)); (case side4 => exact HC0_1.out); rintro e w9 ⟨rfl, hb⟩; refine ⟨_, rfl, ?_⟩; replace BK129 := Aside0.mk (Rgn.bb BK129.out hb); replace BK130 := Aside0.mk (Rgn.bb BK130.out hb); replace HB := Aside0.mk (below_step (Rgn.bq HB.out) hb); (try clear hb); obtain ⟨hcz10_0, hcz10_1, hfz10_0, hfz10_1⟩ := Rgn.c2 BK129.out) | ((with_reducible refine gate_callee (f := 77) rfl ?_); refine Rgn.gl (some 12) Try.func77 #[.slice A0_0 l0_0.length c0_0] ?_; (with_reducible refine (impl_cp.calls _ _ l0_0 t132 _ ?side1 ?side2 A4.out).mono ?_); (case side1 => exact Rgn.cq (Kd.C_below HR0_0.out HB.out)); (case side2 => exact HC0_0.out); rintro e w11 ⟨v133, rfl, ho0, hb⟩; refine ⟨_, rfl, ?_⟩; have HO134 := Aside0.mk (Kd.R_lower ho0 (below_size (Rgn.bq HB.out))); replace BK129 := Aside0.mk (Rgn.bb BK129.out hb); replace BK130 := Aside0.mk (Rgn.bb BK130.out hb); replace HB := Aside0.mk (below_step (Rgn.bq HB.out) hb); (try clear hb); (try clear ho0); obtain ⟨Ao12, co12, eo12⟩ := Kd.R_slice HO134.out; subst eo12) | ((with_reducible refine gate_dst (N := 3) rfl ?_); refine Rgn.bx 3 #[.slice none 0 0, .slice none 0 0] 29 ?_; intro gb135 hg w13 hbox hb; replace HO134 := Aside0.mk (Kd.R_below (Rgn.rq HO134.out) hb); have BK135 := Aside0.mk (hbox); have GW135 := Aside0.mk (Rgn.ge hg HB.out); have GE135 := Aside0.mk (Rgn.ge hg HB.out); replace HB := Aside0.mk (below_step (Rgn.bq HB.out) hb); have NB129_135 := Aside0.mk (Rgn.nl hg BK129.out); have NB135_129 := Aside0.mk (Rgn.ng hg BK129.out); replace BK129 := Aside0.mk (Rgn.bb BK129.out hb); have NB130_135 := Aside0.mk (Rgn.nl hg BK130.out); have NB135_130 := Aside0.mk (Rgn.ng hg BK130.out); replace BK130 := Aside0.mk (Rgn.bb BK130.out hb); clear hb hbox hg; have hnb14 := NB135_129.out; have hnc14 := NB129_135.out; have hnb15 := NB135_130.out; have hnc15 := NB130_135.out; obtain ⟨hcz16_0, hcz16_1, hfz16_0, hfz16_1⟩ := Rgn.c2 BK135.out; obtain ⟨hcz17_0, hcz17_1, hfz17_0, hfz17_1⟩ := Rgn.c2 BK129.out))
  go_loopg [17] k (fun kq v17 w' => ∃ (x17_1 : Int) (x136000_1 : List Int) (u136000 : Value), v17 = .int .i64 x17_1 ∧ Aside0 (impl_DiskFlush.l0 kq l0_1 (l0_1.length : Int) x17_1 x136000_1 = some (r1, r2)) ∧ Aside0 (kq ≤ k) ∧ Aside0 (Kd.R (Kd.int .u8) 5 w' w.heap.size (fun _ => True) u136000 x136000_1) ∧ Aside0 (w'.heap[gb129]? = some (.cells #[(.slice A0_0 l0_0.length c0_0), (.slice A0_1 l0_1.length c0_1)] 29 (0, 0))) ∧ Aside0 (w'.heap[gb130]? = some (.cells #[(.slice none 0 0), (.slice none 0 0)] 29 (0, 0))) ∧ Aside0 (w'.heap[gb135]? = some (.cells #[u136000, (.slice none 0 0)] 29 (0, 0))) ∧ Aside0 (Below w.heap.size w w'))
  case atStart => exact ⟨(0), (t132), (.slice Ao12 t132.length co12), (by first | rfl | (simp; done) | (simp [*]; done)), H', ⟨Nat.le_refl _⟩, ⟨by (with_reducible repeat (first | apply Kd.R_alloc | apply Kd.R_drewN | apply Kd.R_drew)); exact Kd.R_mono (Kd.R_far (p := ⟨gb135, 1, none⟩) (Kd.R_far (p := ⟨gb135, 0, none⟩) (Kd.R_types HO134.out BK135.out (by decide)) (fun _ hk => hk.2) (.slice Ao12 t132.length co12)) (fun _ hk => hk.2) (.slice none 0 0)) (fun _ hk => trivial)⟩, ⟨Rgn.kf BK129.out⟩, ⟨Rgn.kf BK130.out⟩, ⟨by (with_reducible repeat (first | refine blk_drewN ?_ _ | refine blk_drew ?_ | refine blk_alloc ?_ _)); refine blk_put (cs := #[.slice Ao12 t132.length co12, .slice none 0 0]) ?_ 1 _ rfl; (with_reducible repeat (first | refine blk_drewN ?_ _ | refine blk_drew ?_ | refine blk_alloc ?_ _)); refine blk_put (cs := #[.slice none 0 0, .slice none 0 0]) ?_ 0 _ rfl; (with_reducible repeat (first | refine blk_drewN ?_ _ | refine blk_drew ?_ | refine blk_alloc ?_ _)); exact BK135.out⟩, ⟨Rgn.bq HB.out⟩⟩
  case round =>
   clear H'
   try clear c1
   try clear c2
   try clear p2
   try clear c3
   try clear c7
   try clear c14
   try clear c15
   try clear hcz10_0 hcz10_1
   try clear hcz16_0 hcz16_1
   try clear hcz17_0 hcz17_1
   try clear hcz8_0 hcz8_1
   try clear hfz10_0 hfz10_1
   try clear hfz16_0 hfz16_1
   try clear hfz17_0 hfz17_1
   try clear hfz8_0 hfz8_1
   obtain ⟨x17_1, x136000_1, u136000, rfl, HA, HK1, HO_136000, BK129, BK130, BK135, HB⟩ := hrel
   cases gk with
   | zero => exact absurd HA.out (by simp [impl_DiskFlush.l0])
   | succ k1 =>
    have H := HA.out
    clear HA
    simp only [impl_DiskFlush.l0] at H
    by_cases c18 : x17_1 < (l0_1.length : Int)
    ·
     rw [if_pos c18] at H
     have c18b0 : decide (x17_1 < (l0_1.length : Int)) = true := decide_eq_true c18
     clear c18
     by_cases c19 : 0 ≤ x17_1
     ·
      rw [if_pos c19] at H
      have c19b0 : decide (0 ≤ x17_1) = true := decide_eq_true c19
      clear c19
      by_cases c20 : x17_1 < (l0_1.length : Int)
      ·
       rw [if_pos c20] at H
       have c20b0 : decide (x17_1 < (l0_1.length : Int)) = true := decide_eq_true c20
       clear c20
       replace H := Option.bind_eq_some_iff.mp H
       obtain ⟨t138, A210, H⟩ := H
       replace H : (impl_DiskFlush.l0 k1 l0_1 (l0_1.length : Int) (wrap64 (x17_1 + 1)) t138) = some (r1, r2) := H
       have A21 := Aside0.mk A210
       clear A210
       have H' := Aside0.mk H
       clear H
       have p136 : 0 ≤ (x17_1 : Int) := of_decide_eq_true (by first | (with_reducible assumption) | assumption)
       have q136 : x17_1 < (l0_1.length : Int) := of_decide_eq_true (by first | (with_reducible assumption) | assumption)
       obtain ⟨ad136, A136_1, c136_1, e136, hx136_0, hx136_1, hl136_1, hi136_1⟩ := at_T62 HR0_1.out x17_1 p136 q136
       cases e136
       replace hx136_0 := Rgn.hx HB.out hx136_0
       replace hx136_1 := Rgn.hx HB.out hx136_1
       have HR136_1 := Aside0.mk hi136_1
       have HC136_1 := Aside0.mk hl136_1
       clear hi136_1 hl136_1
       replace p136 := eq_true p136
       replace q136 := eq_true q136
       try go_wp2_with (first | ((with_reducible refine gate_dst (N := 5) rfl ?_); refine Rgn.bx 5 #[.int .i64 0, .slice none 0 0] 62 ?_; intro gb137 hg w22 hbox hb; replace HO_136000 := Aside0.mk (Kd.R_below (Rgn.rq HO_136000.out) hb); have BK137 := Aside0.mk (hbox); have GW137 := Aside0.mk (Rgn.ge hg HB.out); have GE137 := Aside0.mk (Rgn.ge hg HB.out); replace HB := Aside0.mk (below_step (Rgn.bq HB.out) hb); have NB129_137 := Aside0.mk (Rgn.nl hg BK129.out); have NB137_129 := Aside0.mk (Rgn.ng hg BK129.out); replace BK129 := Aside0.mk (Rgn.bb BK129.out hb); have NB130_137 := Aside0.mk (Rgn.nl hg BK130.out); have NB137_130 := Aside0.mk (Rgn.ng hg BK130.out); replace BK130 := Aside0.mk (Rgn.bb BK130.out hb); have NB135_137 := Aside0.mk (Rgn.nl hg BK135.out); have NB137_135 := Aside0.mk (Rgn.ng hg BK135.out); replace BK135 := Aside0.mk (Rgn.bb BK135.out hb); clear hb hbox hg; have hnb23 := NB137_129.out; have hnc23 := NB129_137.out; have hnb24 := NB137_130.out; have hnc24 := NB130_137.out; have hnb25 := NB137_135.out; have hnc25 := NB135_137.out; obtain ⟨hcz26_0, hcz26_1, hfz26_0, hfz26_1⟩ := Rgn.c2 BK137.out))
       have n0_ : Aside0 (Kd.R (Kd.int .u8) 5 ((w22.setCell ⟨gb137, 0, none⟩ (.int .i64 ((rd_T62 l0_1 x17_1).f0))).setCell ⟨gb137, 1, none⟩ (.slice A136_1 ((rd_T62 l0_1 x17_1).f1).length c136_1)) w.heap.size (fun _ => True) u136000 x136000_1) := ⟨by (with_reducible repeat (first | apply Kd.R_alloc | apply Kd.R_drewN | apply Kd.R_drew)); exact Kd.R_mono (Kd.R_far (p := ⟨gb137, 1, none⟩) (Kd.R_far (p := ⟨gb137, 0, none⟩) (Kd.R_types HO_136000.out BK137.out (by decide)) (fun _ hk => hk.2) (.int .i64 ((rd_T62 l0_1 x17_1).f0))) (fun _ hk => hk.2) (.slice A136_1 ((rd_T62 l0_1 x17_1).f1).length c136_1)) (fun _ hk => trivial)⟩
       have n1_ : Aside0 (((w22.setCell ⟨gb137, 0, none⟩ (.int .i64 ((rd_T62 l0_1 x17_1).f0))).setCell ⟨gb137, 1, none⟩ (.slice A136_1 ((rd_T62 l0_1 x17_1).f1).length c136_1)).heap[gb129]? = some (.cells #[.slice A0_0 l0_0.length c0_0, .slice (some ad136) l0_1.length c0_1] 29 (0, 0))) := ⟨Rgn.kf BK129.out⟩
       have n2_ : Aside0 (((w22.setCell ⟨gb137, 0, none⟩ (.int .i64 ((rd_T62 l0_1 x17_1).f0))).setCell ⟨gb137, 1, none⟩ (.slice A136_1 ((rd_T62 l0_1 x17_1).f1).length c136_1)).heap[gb130]? = some (.cells #[.slice none 0 0, .slice none 0 0] 29 (0, 0))) := ⟨Rgn.kf BK130.out⟩
       have n3_ : Aside0 (((w22.setCell ⟨gb137, 0, none⟩ (.int .i64 ((rd_T62 l0_1 x17_1).f0))).setCell ⟨gb137, 1, none⟩ (.slice A136_1 ((rd_T62 l0_1 x17_1).f1).length c136_1)).heap[gb135]? = some (.cells #[u136000, .slice none 0 0] 29 (0, 0))) := ⟨Rgn.kf BK135.out⟩
       have n4_ : Aside0 (((w22.setCell ⟨gb137, 0, none⟩ (.int .i64 ((rd_T62 l0_1 x17_1).f0))).setCell ⟨gb137, 1, none⟩ (.slice A136_1 ((rd_T62 l0_1 x17_1).f1).length c136_1)).heap[gb137]? = some (.cells #[.int .i64 ((rd_T62 l0_1 x17_1).f0), .slice A136_1 ((rd_T62 l0_1 x17_1).f1).length c136_1] 62 (0, 0))) := ⟨by (with_reducible repeat (first | refine blk_drewN ?_ _ | refine blk_drew ?_ | refine blk_alloc ?_ _)); refine blk_put (cs := #[.int .i64 ((rd_T62 l0_1 x17_1).f0), .slice none 0 0]) ?_ 1 _ rfl; (with_reducible repeat (first | refine blk_drewN ?_ _ | refine blk_drew ?_ | refine blk_alloc ?_ _)); refine blk_put (cs := #[.int .i64 0, .slice none 0 0]) ?_ 0 _ rfl; (with_reducible repeat (first | refine blk_drewN ?_ _ | refine blk_drew ?_ | refine blk_alloc ?_ _)); exact BK137.out⟩
       have n5_ : Aside0 (Below w.heap.size w ((w22.setCell ⟨gb137, 0, none⟩ (.int .i64 ((rd_T62 l0_1 x17_1).f0))).setCell ⟨gb137, 1, none⟩ (.slice A136_1 ((rd_T62 l0_1 x17_1).f1).length c136_1))) := ⟨Rgn.bq HB.out⟩
       (try clear HO_136000)
       (try clear BK129)
       (try clear BK130)
       (try clear BK135)
       (try clear BK137)
       (try clear HB)
       generalize ((w22.setCell ⟨gb137, 0, none⟩ (.int .i64 ((rd_T62 l0_1 x17_1).f0))).setCell ⟨gb137, 1, none⟩ (.slice A136_1 ((rd_T62 l0_1 x17_1).f1).length c136_1)) = w27 at n0_ n1_ n2_ n3_ n4_ n5_ ⊢
       have HO_136000 := n0_
       have BK129 := n1_
       have BK130 := n2_
       have BK135 := n3_
       have BK137 := n4_
       have HB := n5_
       clear n0_ n1_ n2_ n3_ n4_ n5_
       replace HO_136000 := Aside0.mk (Kd.R_drew HO_136000.out)
       replace BK129 := Aside0.mk (blk_drew BK129.out)
       replace BK130 := Aside0.mk (blk_drew BK130.out)
       replace BK135 := Aside0.mk (blk_drew BK135.out)
       replace BK137 := Aside0.mk (blk_drew BK137.out)
       replace HB := Aside0.mk (below_drew1 HB.out)
       obtain ⟨Ao29, co29, eo29⟩ := Kd.R_slice HO_136000.out
       (first | subst eo29 | (injection eo29 with f1_ f2_ f3_; have f4_ := f1_.symm; have f5_ := f3_.symm; clear f1_ f2_ f3_; subst f4_; subst f5_))
       obtain ⟨iz, hiz, hz1, hz2, hz3⟩ := impl_lay.is A21.out
       obtain ⟨gz, hzA, hzb⟩ : ∃ gz, Ao29 = some (⟨gz, 0, none⟩ : Addr) ∧ w.heap.size ≤ gz := by
        rcases (Kd.own_of_R (enc := Value.int .u8) HO_136000.out).2 with ⟨_, hn0⟩ | ⟨g_, cap_, cur_, hv_, hbg_, _⟩
        ·
         exact absurd hn0 (by omega)
        ·
         injection hv_ with h1_; exact ⟨g_, h1_, hbg_⟩
       have hcapz := (Kd.R_reads' HO_136000.out).2.1
       have hlez : (iz ≤ x136000_1.length) = True := eq_true (by omega)
       have hnez : (co29 = iz) = False := eq_false (by omega)
       refine start_ (n := 9) (S := fun w' => w'.cell? ⟨gb135, 0, none⟩ = some (.slice Ao29 x136000_1.length co29) ∧ w'.cell? ⟨gb135, 1, none⟩ = some (.slice none 0 0) ∧ w'.cell? ⟨gb137, 0, none⟩ = some (.int .i64 ((rd_T62 l0_1 x17_1).f0)) ∧ w'.cell? ⟨gb137, 1, none⟩ = some (.slice A136_1 ((rd_T62 l0_1 x17_1).f1).length c136_1)) (ds := []) #[false, false, false, false, false, false, false, false, false] (by kernel_rfl) rfl rfl ⟨(blk_cell BK135.out 0).trans rfl, (blk_cell BK135.out 1).trans rfl, (blk_cell BK137.out 0).trans rfl, (blk_cell BK137.out 1).trans rfl⟩ (fun hHeld => ?_); refine with_tabW impl_DiskFlush.tab7 impl_DiskFlush.bits7 (fun HT_ HW_ => ?_)
       generalize w27.drew = w28 at HO_136000 BK129 BK130 BK135 BK137 HB hHeld ⊢
       refine Rgn.pu HT_.out 0 21 ?_
       refine Rgn.pu HT_.out 2 23 ?_
       refine Rgn.pu HT_.out 6 27 ?_
       refine Rgn.tk HT_.out HW_.out 1 22 hHeld ?_
       refine Rgn.tk HT_.out HW_.out 3 24 hHeld ?_
       refine Rgn.pu HT_.out 4 25 ?_
       refine Rgn.pu HT_.out 5 26 ?_
       refine Rgn.tk HT_.out HW_.out 7 28 hHeld ?_
       refine one_ (i := 8) (N := some 29) #[true, true, true, true, true, true, true, true, true] rfl rfl (one_of HT_.out (by kernel_rfl)) (by decide) (fun K hK => ?_)
       have HOz : Kd.R (Kd.int .u8) 5 w28 w.heap.size (fun _ => True) (.slice (some ⟨gz, 0, none⟩) x136000_1.length co29) x136000_1 := by have h_ := HO_136000.out; rw [hzA] at h_; exact h_
       refine Cpy.copy_row_wp (.tmp 26) (.tmp 28) 22 22 rfl Try.underlying22 (by kernel_rfl) (x136000_1.length - iz) (co29 - iz) (by rfl) A136_1 ((rd_T62 l0_1 x17_1).f1) ((rd_T62 l0_1 x17_1).f1).length c136_1 (by rfl) rfl (Kd.C_below HR136_1.out HB.out) (by omega) HOz hz1 ?_
       intro w30 hy0 hgr
       replace HO_136000 := Aside0.mk (show Kd.R (Kd.int .u8) 5 w30 w.heap.size (fun _ => True) (.slice Ao29 x136000_1.length co29) t138 by rw [hz3, hzA]; exact hy0)
       replace BK129 := Aside0.mk ((hgr.block _ (blk_lt BK129.out) (fun e_ => Kd.R_ne HOz BK129.out (by decide) (by first | exact e_ | exact e_.symm))).trans BK129.out)
       replace BK130 := Aside0.mk ((hgr.block _ (blk_lt BK130.out) (fun e_ => Kd.R_ne HOz BK130.out (by decide) (by first | exact e_ | exact e_.symm))).trans BK130.out)
       replace BK135 := Aside0.mk ((hgr.block _ (blk_lt BK135.out) (fun e_ => Kd.R_ne HOz BK135.out (by decide) (by first | exact e_ | exact e_.symm))).trans BK135.out)
       replace BK137 := Aside0.mk ((hgr.block _ (blk_lt BK137.out) (fun e_ => Kd.R_ne HOz BK137.out (by decide) (by first | exact e_ | exact e_.symm))).trans BK137.out)
       replace HB := Aside0.mk (Box.below_grown HB.out hgr hzb)
       skip
       skip
       (try clear hy0)
       refine hK.out _ _ ⟨(blk_cell BK135.out 0).trans rfl, (blk_cell BK135.out 1).trans rfl, (blk_cell BK137.out 0).trans rfl, (blk_cell BK137.out 1).trans rfl⟩ (fun hHeld => ?_)
       clear hK K
       refine norm_ (a' := ?_) ?_ ?_
       rotate_left
       ·
        show Act.put _ (some 29) _ = _
        simp only [Act.put, List.setIfInBounds_toArray, List.set_cons_zero, List.set_cons_succ, i64_w, i32_w]
        rfl
       refine done_ (done_of HT_.out (by kernel_rfl)) ?_
       try go_wp2
       go_roundg k1
       case measure => have := HK1.out; omega
       case rel => exact ⟨(wrap64 (x17_1 + 1)), (t138), (.slice Ao29 x136000_1.length co29), (by first | rfl | (simp; done) | (simp [*]; done)), H', ⟨by have := HK1.out; omega⟩, ⟨Rgn.rq HO_136000.out⟩, ⟨Rgn.kb BK129.out⟩, ⟨Rgn.kb BK130.out⟩, ⟨Rgn.kb BK135.out⟩, ⟨Rgn.bq HB.out⟩⟩
      ·
       rw [if_neg c20] at H
       exact absurd H (by simp)
     ·
      rw [if_neg c19] at H
      exact absurd H (by simp)
    ·
     rw [if_neg c18] at H
     have c18b0 : decide (x17_1 < (l0_1.length : Int)) = false := decide_eq_false c18
     clear c18
     simp only [Option.some.injEq, Prod.mk.injEq] at H
     obtain ⟨rfl, rfl⟩ := H
     have hnb31 := NB135_129.out
     have hnc31 := NB129_135.out
     have hnb32 := NB135_130.out
     have hnc32 := NB130_135.out
     have hcz33_0 := Rgn.cz0 BK135.out
     have hcz33_1 := Rgn.cz1 BK135.out
     have hfz33_0 := blk_frozen BK135.out 0
     have hfz33_1 := blk_frozen BK135.out 1
     obtain ⟨Ao34, co34, eo34⟩ := Kd.R_slice HO_136000.out
     subst eo34
     have hnb35 := NB130_129.out
     have hnc35 := NB129_130.out
     have hcz36_0 := Rgn.cz0 BK130.out
     have hcz36_1 := Rgn.cz1 BK130.out
     have hfz36_0 := blk_frozen BK130.out 0
     have hfz36_1 := blk_frozen BK130.out 1
     go_wp2
     refine bodyPost_ret (results_cell_row rfl _ _ gb130 29 #[.slice Ao34 x136000_1.length co34, .slice none 0 0] (0, 0) _ rfl (by (with_reducible repeat (first | refine blk_drewN ?_ _ | refine blk_drew ?_ | refine blk_alloc ?_ _)); refine blk_put (cs := #[.slice Ao34 x136000_1.length co34, .slice none 0 0]) ?_ 1 _ rfl; (with_reducible repeat (first | refine blk_drewN ?_ _ | refine blk_drew ?_ | refine blk_alloc ?_ _)); refine blk_put (cs := #[.slice none 0 0, .slice none 0 0]) ?_ 0 _ rfl; (with_reducible repeat (first | refine blk_drewN ?_ _ | refine blk_drew ?_ | refine blk_alloc ?_ _)); exact BK130.out) Try.underlying29 rfl (by kernel_rfl)) rfl ?_
     exact ⟨_, _, by first | rfl | (simp [errW_none, errW_some] <;> rfl) | (simp [*, errW_none, errW_some] <;> rfl), by (with_reducible repeat (first | apply Kd.R_alloc | apply Kd.R_drewN | apply Kd.R_drew)); exact Kd.R_mono (Kd.R_far (p := ⟨gb130, 1, none⟩) (Kd.R_far (p := ⟨gb130, 0, none⟩) (Kd.R_types HO_136000.out BK130.out (by decide)) (fun _ hk => hk.2) (.slice Ao34 x136000_1.length co34)) (fun _ hk => hk.2) (.slice none 0 0)) (fun _ hk => trivial), by first | exact Kd.S_nil _ _ _ _ _ | exact Kd.N_nil _ _ _ _ _ | exact Kd.V_nil _ _ _ _ _ | exact Kd.Q_nil _ _ _ _ _ | exact Kd.R_nil _ _ _ _ _, Rgn.bq HB.out⟩
 ·
  replace c3 := Bool.eq_false_iff.mpr c3
  subst c3
  have H1 : (some (([] : List Int), ([] : List (S62)))) = some (r1, r2) := by rw [if_neg (show ¬ (false = true) by decide)] at H; exact H
  clear H
  have H := H1
  clear H1
  simp only [Option.some.injEq, Prod.mk.injEq] at H
  obtain ⟨rfl, rfl⟩ := H
  go_enter Try.func34, Try.ntmps34
  go_wp2_with (first | ((with_reducible refine gate_dst (N := 1) rfl ?_); refine Rgn.bx 1 #[.slice A0_0 l0_0.length c0_0, .slice A0_1 l0_1.length c0_1] 29 ?_; intro gb129 hg w37 hbox hb; have BK129 := Aside0.mk (hbox); have GW129 := Aside0.mk (Rgn.ge hg HB.out); have GE129 := Aside0.mk (Rgn.ge hg HB.out); replace HB := Aside0.mk (below_step (Rgn.bq HB.out) hb); clear hb hbox hg) | ((with_reducible refine gate_dst (N := 2) rfl ?_); refine Rgn.bx 2 #[.slice none 0 0, .slice none 0 0] 29 ?_; intro gb130 hg w38 hbox hb; have BK130 := Aside0.mk (hbox); have GW130 := Aside0.mk (Rgn.ge hg HB.out); have GE130 := Aside0.mk (Rgn.ge hg HB.out); replace HB := Aside0.mk (below_step (Rgn.bq HB.out) hb); have NB129_130 := Aside0.mk (Rgn.nl hg BK129.out); have NB130_129 := Aside0.mk (Rgn.ng hg BK129.out); replace BK129 := Aside0.mk (Rgn.bb BK129.out hb); clear hb hbox hg; have hnb39 := NB129_130.out; have hnc39 := NB130_129.out; obtain ⟨hcz40_0, hcz40_1, hfz40_0, hfz40_1⟩ := Rgn.c2 BK129.out) | ((with_reducible refine gate_callee (f := 28) rfl ?_); refine Rgn.gl (some 7) Try.func28 #[.agg #[.slice A0_0 l0_0.length c0_0, .slice A0_1 l0_1.length c0_1]] ?_; (with_reducible refine (impl_ValidDisk.calls k _ _ l0_0 _ _ l0_1 false _ ?side1 ?side2 ?side3 ?side4 A2.out).mono ?_); (case side1 => exact Rgn.cq (Kd.C_below HR0_0.out HB.out)); (case side2 => exact HC0_0.out); (case side3 => exact Rgn.cq (Kd.C_below HR0_1.out HB.out)); (case side4 => exact HC0_1.out); rintro e w41 ⟨rfl, hb⟩; refine ⟨_, rfl, ?_⟩; replace BK129 := Aside0.mk (Rgn.bb BK129.out hb); replace BK130 := Aside0.mk (Rgn.bb BK130.out hb); replace HB := Aside0.mk (below_step (Rgn.bq HB.out) hb); (try clear hb); obtain ⟨hcz42_0, hcz42_1, hfz42_0, hfz42_1⟩ := Rgn.c2 BK130.out))
  refine bodyPost_ret (results_cell_row rfl _ _ gb130 29 #[.slice none 0 0, .slice none 0 0] (0, 0) _ rfl (by (with_reducible repeat (first | refine blk_drewN ?_ _ | refine blk_drew ?_ | refine blk_alloc ?_ _)); refine blk_put (cs := #[.slice none 0 0, .slice none 0 0]) ?_ 1 _ rfl; (with_reducible repeat (first | refine blk_drewN ?_ _ | refine blk_drew ?_ | refine blk_alloc ?_ _)); refine blk_put (cs := #[.slice none 0 0, .slice none 0 0]) ?_ 0 _ rfl; (with_reducible repeat (first | refine blk_drewN ?_ _ | refine blk_drew ?_ | refine blk_alloc ?_ _)); exact BK130.out) Try.underlying29 rfl (by kernel_rfl)) rfl ?_
  exact ⟨_, _, by first | rfl | (simp [errW_none, errW_some] <;> rfl) | (simp [*, errW_none, errW_some] <;> rfl), by first | exact Kd.R_nil _ _ _ _ _ | exact Kd.N_nil _ _ _ _ _ | exact Kd.V_nil _ _ _ _ _ | exact Kd.Q_nil _ _ _ _ _ | exact Kd.S_nil _ _ _ _ _, by first | exact Kd.S_nil _ _ _ _ _ | exact Kd.N_nil _ _ _ _ _ | exact Kd.V_nil _ _ _ _ _ | exact Kd.Q_nil _ _ _ _ _ | exact Kd.R_nil _ _ _ _ _, Rgn.bq HB.out⟩

/-! ### impl_DiskImage: function 32 -/
def impl_DiskImage.f (k : Nat) (l0_0 : List Int) (l0_1 : List (S62)) : Option (List Int) := (impl_DiskFlush.f k l0_0 l0_1).bind fun bt140 => (some bt140.1)
set_option maxHeartbeats 8000000 in
set_option maxRecDepth 100000 in
theorem impl_DiskImage.calls (k : Nat) (A0_0 : Option Addr) (c0_0 : Nat) (l0_0 : List Int) (A0_1 : Option Addr) (c0_1 : Nat) (l0_1 : List (S62)) (r : List Int) (w : World) (hr0_0 : Kd.C (Kd.int .u8) w A0_0 l0_0.length l0_0) (hc0_0 : l0_0.length ≤ c0_0) (hr0_1 : Kd.C k62 w A0_1 l0_1.length l0_1) (hc0_1 : l0_1.length ≤ c0_1) (h : impl_DiskImage.f k l0_0 l0_1 = some r) :
  Calls Try.prog 32 #[.agg #[.slice A0_0 l0_0.length c0_0, .slice A0_1 l0_1.length c0_1]] w fun e w' => ∃ v0_ : Value, e = .returned (v0_) ∧ Kd.R (Kd.int .u8) 5 w' w.heap.size (fun _ => True) v0_ r ∧ Below w.heap.size w w' := by
 have hfd : ∀ (u v : Value) (W : World), (Instr.field 29 (.agg #[u, v]) 0).run Try.prog W = .ok u W := fun _ _ _ => by kernel_rfl
 have hu29 := Try.underlying29
 have HR0_0 := Aside0.mk hr0_0
 have HC0_0 := Aside0.mk hc0_0
 clear hr0_0 hc0_0
 have HR0_1 := Aside0.mk hr0_1
 have HC0_1 := Aside0.mk hc0_1
 clear hr0_1 hc0_1
 have HB := Aside0.mk (Below.refl w.heap.size w)
 have H : ((impl_DiskFlush.f k l0_0 l0_1).bind fun bt140 => (some bt140.1)) = some r := h
 clear h
 replace H := Option.bind_eq_some_iff.mp H
 obtain ⟨⟨t140, t143⟩, A20, H⟩ := H
 replace H : (some t140) = some r := H
 have A2 := Aside0.mk A20
 clear A20
 obtain rfl := Option.some.inj H
 go_enter Try.func32, Try.ntmps32
 go_wp2_with (first | ((with_reducible refine gate_dst (N := 1) rfl ?_); refine Rgn.bx 1 #[.slice A0_0 l0_0.length c0_0, .slice A0_1 l0_1.length c0_1] 29 ?_; intro gb139 hg w3 hbox hb; have BK139 := Aside0.mk (hbox); have GW139 := Aside0.mk (Rgn.ge hg HB.out); have GE139 := Aside0.mk (Rgn.ge hg HB.out); replace HB := Aside0.mk (below_step (Rgn.bq HB.out) hb); clear hb hbox hg; obtain ⟨hcz4_0, hcz4_1, hfz4_0, hfz4_1⟩ := Rgn.c2 BK139.out) | ((with_reducible refine gate_callee (f := 34) rfl ?_); refine Rgn.gl (some 4) Try.func34 #[.agg #[.slice A0_0 l0_0.length c0_0, .slice A0_1 l0_1.length c0_1]] ?_; (with_reducible refine (impl_DiskFlush.calls k _ _ l0_0 _ _ l0_1 t140 t143 _ ?side1 ?side2 ?side3 ?side4 A2.out).mono ?_); (case side1 => exact Rgn.cq (Kd.C_below HR0_0.out HB.out)); (case side2 => exact HC0_0.out); (case side3 => exact Rgn.cq (Kd.C_below HR0_1.out HB.out)); (case side4 => exact HC0_1.out); rintro e w5 ⟨v141, v144, rfl, ho0, ho1, hb⟩; refine ⟨_, rfl, ?_⟩; have HO142 := Aside0.mk (Kd.R_lower ho0 (below_size (Rgn.bq HB.out))); have HO145 := Aside0.mk (Kd.S_lower ho1 (below_size (Rgn.bq HB.out))); replace BK139 := Aside0.mk (Rgn.bb BK139.out hb); replace HB := Aside0.mk (below_step (Rgn.bq HB.out) hb); (try clear hb); (try clear ho0); (try clear ho1)))
 go_ret
 exact ⟨_, by first | rfl | (simp [errW_none, errW_some] <;> rfl) | (simp [*, errW_none, errW_some] <;> rfl), Rgn.rq HO142.out, Rgn.bq HB.out⟩

/-! ### impl_DiskCrash: function 40 -/

mutual
def impl_DiskCrash.j0 : Nat → List Int → Bool → List Int → List (S62) → Option (List Int × (List (S62)))
 | 0, _, _, _, _ => none
 | k + 1, x1, x15, x147000, x147001 => if x15 = true then (some (([] : List Int), ([] : List (S62)))) else ((impl_cp.f x147000).bind fun t149 => (impl_DiskCrash.l0 k x1 x147001 (x147001.length : Int) 0 t149))
def impl_DiskCrash.l0 : Nat → List Int → List (S62) → Int → Int → List Int → Option (List Int × (List (S62)))
 | 0, _, _, _, _, _ => none
 | k + 1, x1, x22, x23, x24, x153000 => if x24 < x23 then (if 0 ≤ x24 then (if x24 < (x22.length : Int) then (if x24 < (x1.length : Int) then (if (rd x1 x24) = 0 then (impl_DiskCrash.l0 k x1 x22 x23 (wrap64 (x24 + 1)) x153000) else ((impl_lay.f k x153000 (wrap64 (((rd_T62 x22 x24).f0) * 64)) ((rd_T62 x22 x24).f1)).bind fun t156 => (impl_DiskCrash.l0 k x1 x22 x23 (wrap64 (x24 + 1)) t156))) else (impl_DiskCrash.l0 k x1 x22 x23 (wrap64 (x24 + 1)) x153000)) else (none)) else (none)) else (some (x153000, ([] : List (S62))))
end
def impl_DiskCrash.f (k : Nat) (l0_0 : List Int) (l0_1 : List (S62)) (l1 : List Int) : Option (List Int × (List (S62))) := (impl_ValidDisk.f k l0_0 l0_1).bind fun t148 => (if t148 = true then (impl_DiskCrash.j0 k l1 (decide ((l1.length : Int) > 600)) l0_0 l0_1) else (impl_DiskCrash.j0 k l1 true l0_0 l0_1))
def impl_DiskCrash.T8 : Bool × List (List Nat × List Nat) := (true, [([], []), ([0], [0]), ([], []), ([2], [2]), ([3], [3]), ([1, 4], [1, 4]), ([], []), ([6], [6]), ([5, 7], [5, 7])])
def impl_DiskCrash.B8 : List Nat := [0, 1, 0, 4, 12, 31, 0, 64, 255]
theorem impl_DiskCrash.tab8 : rtab .any (opsOf Try.f40 8) = impl_DiskCrash.T8 := by kernel_rfl
theorem impl_DiskCrash.bits8 : waitsOk impl_DiskCrash.T8.2 impl_DiskCrash.B8 = true := by kernel_rfl
set_option maxHeartbeats 8000000 in
set_option maxRecDepth 100000 in
theorem impl_DiskCrash.calls (k : Nat) (A0_0 : Option Addr) (c0_0 : Nat) (l0_0 : List Int) (A0_1 : Option Addr) (c0_1 : Nat) (l0_1 : List (S62)) (A1 : Option Addr) (c1 : Nat) (l1 : List Int) (r1 : List Int) (r2 : List (S62)) (w : World) (hr0_0 : Kd.C (Kd.int .u8) w A0_0 l0_0.length l0_0) (hc0_0 : l0_0.length ≤ c0_0) (hr0_1 : Kd.C k62 w A0_1 l0_1.length l0_1) (hc0_1 : l0_1.length ≤ c0_1) (hr1 : Kd.C (Kd.int .i64) w A1 l1.length l1) (hc1 : l1.length ≤ c1) (h : impl_DiskCrash.f k l0_0 l0_1 l1 = some (r1, r2)) :
  Calls Try.prog 40 #[.agg #[.slice A0_0 l0_0.length c0_0, .slice A0_1 l0_1.length c0_1], .slice A1 l1.length c1] w fun e w' => ∃ v0_ v1_ : Value, e = .returned (.agg #[v0_, v1_]) ∧ Kd.R (Kd.int .u8) 5 w' w.heap.size (fun _ => True) v0_ r1 ∧ Kd.S k62 62 w' w.heap.size (fun k_ => some k_ ≠ (v0_ : Value).ownBlock) v1_ r2 ∧ Below w.heap.size w w' := by
 have hu29 := Try.underlying29
 have hu62 := Try.underlying62
 have HR0_0 := Aside0.mk hr0_0
 have HC0_0 := Aside0.mk hc0_0
 clear hr0_0 hc0_0
 have HR0_1 := Aside0.mk hr0_1
 have HC0_1 := Aside0.mk hc0_1
 clear hr0_1 hc0_1
 have HR1 := Aside0.mk hr1
 have HC1 := Aside0.mk hc1
 clear hr1 hc1
 have HB := Aside0.mk (Below.refl w.heap.size w)
 have H : ((impl_ValidDisk.f k l0_0 l0_1).bind fun t148 => (if t148 = true then (impl_DiskCrash.j0 k l1 (decide ((l1.length : Int) > 600)) l0_0 l0_1) else (impl_DiskCrash.j0 k l1 true l0_0 l0_1))) = some (r1, r2) := h
 clear h
 have HC3 := Aside0.mk H
 clear H
 go_enter Try.func40, Try.ntmps40
 go_upto_region 1 with (first | ((with_reducible refine gate_dst (N := 2) rfl ?_); (try (refine gate_guard (by rfl) ?_; dsimp only)); refine Rgn.bx 2 #[.slice A0_0 l0_0.length c0_0, .slice A0_1 l0_1.length c0_1] 29 ?_; intro gb146 hg w4 hbox hb; have BK146 := Aside0.mk (hbox); have GW146 := Aside0.mk (Rgn.ge hg HB.out); have GE146 := Aside0.mk (Rgn.ge hg HB.out); replace HB := Aside0.mk (below_step (Rgn.bq HB.out) hb); clear hb hbox hg) | ((with_reducible refine gate_dst (N := 4) rfl ?_); (try (refine gate_guard (by rfl) ?_; dsimp only)); refine Rgn.bx 4 #[.slice none 0 0, .slice none 0 0] 29 ?_; intro gb147 hg w5 hbox hb; have BK147 := Aside0.mk (hbox); have GW147 := Aside0.mk (Rgn.ge hg HB.out); have GE147 := Aside0.mk (Rgn.ge hg HB.out); replace HB := Aside0.mk (below_step (Rgn.bq HB.out) hb); have NB146_147 := Aside0.mk (Rgn.nl hg BK146.out); have NB147_146 := Aside0.mk (Rgn.ng hg BK146.out); replace BK146 := Aside0.mk (Rgn.bb BK146.out hb); clear hb hbox hg))
 (try simp only [Act.put, List.setIfInBounds_toArray, List.set_cons_zero, List.set_cons_succ])
 go_cut [15] (fun v15 wc => ∃ (kq : Nat) (x15_2 : Bool), v15 = .bool x15_2 ∧ Aside0 (impl_DiskCrash.j0 kq l1 x15_2 l0_0 l0_1 = some (r1, r2)) ∧ Aside0 (kq ≤ k) ∧ Aside0 (wc.heap[gb146]? = some (.cells #[(.slice A0_0 l0_0.length c0_0), (.slice A0_1 l0_1.length c0_1)] 29 (0, 0))) ∧ Aside0 (wc.heap[gb147]? = some (.cells #[(.slice none 0 0), (.slice none 0 0)] 29 (0, 0))) ∧ Aside0 (Below w.heap.size w wc))
 case first =>
  have H := HC3.out
  clear HC3
  replace H := Option.bind_eq_some_iff.mp H
  obtain ⟨t148, A60, H⟩ := H
  replace H : (if t148 = true then (impl_DiskCrash.j0 k l1 (decide ((l1.length : Int) > 600)) l0_0 l0_1) else (impl_DiskCrash.j0 k l1 true l0_0 l0_1)) = some (r1, r2) := H
  have A6 := Aside0.mk A60
  clear A60
  by_cases c7 : t148 = true
  ·
   subst c7
   have H1 : (impl_DiskCrash.j0 k l1 (decide ((l1.length : Int) > 600)) l0_0 l0_1) = some (r1, r2) := by rw [if_pos rfl] at H; exact H
   clear H
   have H := H1
   clear H1
   have H' := Aside0.mk H
   clear H
   have hnb8 := NB146_147.out
   have hnc8 := NB147_146.out
   have hcz9_0 := Rgn.cz0 BK146.out
   have hcz9_1 := Rgn.cz1 BK146.out
   have hfz9_0 := blk_frozen BK146.out 0
   have hfz9_1 := blk_frozen BK146.out 1
   go_wp2_with (first | ((with_reducible refine gate_callee (f := 28) rfl ?_); refine Rgn.gl (some 9) Try.func28 #[.agg #[.slice A0_0 l0_0.length c0_0, .slice A0_1 l0_1.length c0_1]] ?_; (with_reducible refine (impl_ValidDisk.calls k _ _ l0_0 _ _ l0_1 true _ ?side1 ?side2 ?side3 ?side4 A6.out).mono ?_); (case side1 => exact Rgn.cq (Kd.C_below HR0_0.out HB.out)); (case side2 => exact HC0_0.out); (case side3 => exact Rgn.cq (Kd.C_below HR0_1.out HB.out)); (case side4 => exact HC0_1.out); rintro e w10 ⟨rfl, hb⟩; refine ⟨_, rfl, ?_⟩; replace BK146 := Aside0.mk (Rgn.bb BK146.out hb); replace BK147 := Aside0.mk (Rgn.bb BK147.out hb); replace HB := Aside0.mk (below_step (Rgn.bq HB.out) hb); (try clear hb)))
   go_meet
   case rel => exact ⟨_, (decide ((l1.length : Int) > 600)), (by first | rfl | (simp; done) | (simp [*]; done)), H', ⟨by first | omega | exact Nat.le_refl _⟩, ⟨Rgn.kb BK146.out⟩, ⟨Rgn.kb BK147.out⟩, ⟨Rgn.bq HB.out⟩⟩
  ·
   replace c7 := Bool.eq_false_iff.mpr c7
   subst c7
   have H1 : (impl_DiskCrash.j0 k l1 true l0_0 l0_1) = some (r1, r2) := by rw [if_neg (show ¬ (false = true) by decide)] at H; exact H
   clear H
   have H := H1
   clear H1
   have H' := Aside0.mk H
   clear H
   have hnb11 := NB146_147.out
   have hnc11 := NB147_146.out
   have hcz12_0 := Rgn.cz0 BK146.out
   have hcz12_1 := Rgn.cz1 BK146.out
   have hfz12_0 := blk_frozen BK146.out 0
   have hfz12_1 := blk_frozen BK146.out 1
   go_wp2_with (first | ((with_reducible refine gate_callee (f := 28) rfl ?_); refine Rgn.gl (some 9) Try.func28 #[.agg #[.slice A0_0 l0_0.length c0_0, .slice A0_1 l0_1.length c0_1]] ?_; (with_reducible refine (impl_ValidDisk.calls k _ _ l0_0 _ _ l0_1 false _ ?side1 ?side2 ?side3 ?side4 A6.out).mono ?_); (case side1 => exact Rgn.cq (Kd.C_below HR0_0.out HB.out)); (case side2 => exact HC0_0.out); (case side3 => exact Rgn.cq (Kd.C_below HR0_1.out HB.out)); (case side4 => exact HC0_1.out); rintro e w13 ⟨rfl, hb⟩; refine ⟨_, rfl, ?_⟩; replace BK146 := Aside0.mk (Rgn.bb BK146.out hb); replace BK147 := Aside0.mk (Rgn.bb BK147.out hb); replace HB := Aside0.mk (below_step (Rgn.bq HB.out) hb); (try clear hb)))
   go_meet
   case rel => exact ⟨_, (true), (by first | rfl | (simp; done) | (simp [*]; done)), H', ⟨by first | omega | exact Nat.le_refl _⟩, ⟨Rgn.kb BK146.out⟩, ⟨Rgn.kb BK147.out⟩, ⟨Rgn.bq HB.out⟩⟩
 case rest =>
  clear HC3
  try clear c1
  try clear c2
  try clear p2
  try clear c4
  try clear c7
  try clear c8
  try clear c11
  try clear hcz12_0 hcz12_1
  try clear hcz9_0 hcz9_1
  try clear hfz12_0 hfz12_1
  try clear hfz9_0 hfz9_1
  obtain ⟨kq, x15_2, rfl, HA, HJ2, BK146, BK147, HB⟩ := hcut
  cases kq with
  | zero => exact absurd HA.out (by simp [impl_DiskCrash.j0])
  | succ kj2 =>
   have H := HA.out
   clear HA
   simp only [impl_DiskCrash.j0] at H
   by_cases c14 : x15_2 = true
   ·
    subst c14
    have H1 : (some (([] : List Int), ([] : List (S62)))) = some (r1, r2) := by rw [if_pos rfl] at H; exact H
    clear H
    have H := H1
    clear H1
    simp only [Option.some.injEq, Prod.mk.injEq] at H
    obtain ⟨rfl, rfl⟩ := H
    have hnb15 := NB147_146.out
    have hnc15 := NB146_147.out
    have hcz16_0 := Rgn.cz0 BK147.out
    have hcz16_1 := Rgn.cz1 BK147.out
    have hfz16_0 := blk_frozen BK147.out 0
    have hfz16_1 := blk_frozen BK147.out 1
    go_wp2
    refine bodyPost_ret (results_cell_row rfl _ _ gb147 29 #[.slice none 0 0, .slice none 0 0] (0, 0) _ rfl (by (with_reducible repeat (first | refine blk_drewN ?_ _ | refine blk_drew ?_ | refine blk_alloc ?_ _)); refine blk_put (cs := #[.slice none 0 0, .slice none 0 0]) ?_ 1 _ rfl; (with_reducible repeat (first | refine blk_drewN ?_ _ | refine blk_drew ?_ | refine blk_alloc ?_ _)); refine blk_put (cs := #[.slice none 0 0, .slice none 0 0]) ?_ 0 _ rfl; (with_reducible repeat (first | refine blk_drewN ?_ _ | refine blk_drew ?_ | refine blk_alloc ?_ _)); exact BK147.out) Try.underlying29 rfl (by kernel_rfl)) rfl ?_
    exact ⟨_, _, by first | rfl | (simp [errW_none, errW_some] <;> rfl) | (simp [*, errW_none, errW_some] <;> rfl), by first | exact Kd.R_nil _ _ _ _ _ | exact Kd.N_nil _ _ _ _ _ | exact Kd.V_nil _ _ _ _ _ | exact Kd.Q_nil _ _ _ _ _ | exact Kd.S_nil _ _ _ _ _, by first | exact Kd.S_nil _ _ _ _ _ | exact Kd.N_nil _ _ _ _ _ | exact Kd.V_nil _ _ _ _ _ | exact Kd.Q_nil _ _ _ _ _ | exact Kd.R_nil _ _ _ _ _, Rgn.bq HB.out⟩
   ·
    replace c14 := Bool.eq_false_iff.mpr c14
    subst c14
    have H1 : ((impl_cp.f l0_0).bind fun t149 => (impl_DiskCrash.l0 kj2 l1 l0_1 (l0_1.length : Int) 0 t149)) = some (r1, r2) := by rw [if_neg (show ¬ (false = true) by decide)] at H; exact H
    clear H
    have H := H1
    clear H1
    replace H := Option.bind_eq_some_iff.mp H
    obtain ⟨t149, A170, H⟩ := H
    replace H : (impl_DiskCrash.l0 kj2 l1 l0_1 (l0_1.length : Int) 0 t149) = some (r1, r2) := H
    have A17 := Aside0.mk A170
    clear A170
    have H' := Aside0.mk H
    clear H
    have hnb18 := NB146_147.out
    have hnc18 := NB147_146.out
    have hcz19_0 := Rgn.cz0 BK146.out
    have hcz19_1 := Rgn.cz1 BK146.out
    have hfz19_0 := blk_frozen BK146.out 0
    have hfz19_1 := blk_frozen BK146.out 1
    go_wp2_with (first | ((with_reducible refine gate_callee (f := 77) rfl ?_); refine Rgn.gl (some 19) Try.func77 #[.slice A0_0 l0_0.length c0_0] ?_; (with_reducible refine (impl_cp.calls _ _ l0_0 t149 _ ?side1 ?side2 A17.out).mono ?_); (case side1 => exact Rgn.cq (Kd.C_below HR0_0.out HB.out)); (case side2 => exact HC0_0.out); rintro e w20 ⟨v150, rfl, ho0, hb⟩; refine ⟨_, rfl, ?_⟩; have HO151 := Aside0.mk (Kd.R_lower ho0 (below_size (Rgn.bq HB.out))); replace BK146 := Aside0.mk (Rgn.bb BK146.out hb); replace BK147 := Aside0.mk (Rgn.bb BK147.out hb); replace HB := Aside0.mk (below_step (Rgn.bq HB.out) hb); (try clear hb); (try clear ho0); obtain ⟨Ao21, co21, eo21⟩ := Kd.R_slice HO151.out; subst eo21) | ((with_reducible refine gate_dst (N := 5) rfl ?_); (try (refine gate_guard (by rfl) ?_; dsimp only)); refine Rgn.bx 5 #[.slice none 0 0, .slice none 0 0] 29 ?_; intro gb152 hg w22 hbox hb; replace HO151 := Aside0.mk (Kd.R_below (Rgn.rq HO151.out) hb); have BK152 := Aside0.mk (hbox); have GW152 := Aside0.mk (Rgn.ge hg HB.out); have GE152 := Aside0.mk (Rgn.ge hg HB.out); replace HB := Aside0.mk (below_step (Rgn.bq HB.out) hb); have NB146_152 := Aside0.mk (Rgn.nl hg BK146.out); have NB152_146 := Aside0.mk (Rgn.ng hg BK146.out); replace BK146 := Aside0.mk (Rgn.bb BK146.out hb); have NB147_152 := Aside0.mk (Rgn.nl hg BK147.out); have NB152_147 := Aside0.mk (Rgn.ng hg BK147.out); replace BK147 := Aside0.mk (Rgn.bb BK147.out hb); clear hb hbox hg; have hnb23 := NB152_146.out; have hnc23 := NB146_152.out; have hnb24 := NB152_147.out; have hnc24 := NB147_152.out; obtain ⟨hcz25_0, hcz25_1, hfz25_0, hfz25_1⟩ := Rgn.c2 BK152.out; obtain ⟨hcz26_0, hcz26_1, hfz26_0, hfz26_1⟩ := Rgn.c2 BK146.out))
    go_loopg [24] kj2 (fun kq v24 w' => ∃ (x24_2 : Int) (x153000_2 : List Int) (u153000 : Value), v24 = .int .i64 x24_2 ∧ Aside0 (impl_DiskCrash.l0 kq l1 l0_1 (l0_1.length : Int) x24_2 x153000_2 = some (r1, r2)) ∧ Aside0 (kq ≤ kj2) ∧ Aside0 (Kd.R (Kd.int .u8) 5 w' w.heap.size (fun _ => True) u153000 x153000_2) ∧ Aside0 (w'.heap[gb146]? = some (.cells #[(.slice A0_0 l0_0.length c0_0), (.slice A0_1 l0_1.length c0_1)] 29 (0, 0))) ∧ Aside0 (w'.heap[gb147]? = some (.cells #[(.slice none 0 0), (.slice none 0 0)] 29 (0, 0))) ∧ Aside0 (w'.heap[gb152]? = some (.cells #[u153000, (.slice none 0 0)] 29 (0, 0))) ∧ Aside0 (Below w.heap.size w w'))
    case atStart => exact ⟨(0), (t149), (.slice Ao21 t149.length co21), (by first | rfl | (simp; done) | (simp [*]; done)), H', ⟨Nat.le_refl _⟩, ⟨by (with_reducible repeat (first | apply Kd.R_alloc | apply Kd.R_drewN | apply Kd.R_drew)); exact Kd.R_mono (Kd.R_far (p := ⟨gb152, 1, none⟩) (Kd.R_far (p := ⟨gb152, 0, none⟩) (Kd.R_types HO151.out BK152.out (by decide)) (fun _ hk => hk.2) (.slice Ao21 t149.length co21)) (fun _ hk => hk.2) (.slice none 0 0)) (fun _ hk => trivial)⟩, ⟨Rgn.kf BK146.out⟩, ⟨Rgn.kf BK147.out⟩, ⟨by (with_reducible repeat (first | refine blk_drewN ?_ _ | refine blk_drew ?_ | refine blk_alloc ?_ _)); refine blk_put (cs := #[.slice Ao21 t149.length co21, .slice none 0 0]) ?_ 1 _ rfl; (with_reducible repeat (first | refine blk_drewN ?_ _ | refine blk_drew ?_ | refine blk_alloc ?_ _)); refine blk_put (cs := #[.slice none 0 0, .slice none 0 0]) ?_ 0 _ rfl; (with_reducible repeat (first | refine blk_drewN ?_ _ | refine blk_drew ?_ | refine blk_alloc ?_ _)); exact BK152.out⟩, ⟨Rgn.bq HB.out⟩⟩
    case round =>
     clear H'
     try clear c1
     try clear c2
     try clear p2
     try clear c4
     try clear c7
     try clear c8
     try clear c11
     try clear c14
     try clear c15
     try clear c18
     try clear c23
     try clear c24
     try clear hcz12_0 hcz12_1
     try clear hcz16_0 hcz16_1
     try clear hcz19_0 hcz19_1
     try clear hcz25_0 hcz25_1
     try clear hcz26_0 hcz26_1
     try clear hcz9_0 hcz9_1
     try clear hfz12_0 hfz12_1
     try clear hfz16_0 hfz16_1
     try clear hfz19_0 hfz19_1
     try clear hfz25_0 hfz25_1
     try clear hfz26_0 hfz26_1
     try clear hfz9_0 hfz9_1
     try clear p2
     obtain ⟨x24_2, x153000_2, u153000, rfl, HA, HK2, HO_153000, BK146, BK147, BK152, HB⟩ := hrel
     cases gk with
     | zero => exact absurd HA.out (by simp [impl_DiskCrash.l0])
     | succ k2 =>
      have H := HA.out
      clear HA
      simp only [impl_DiskCrash.l0] at H
      by_cases c27 : x24_2 < (l0_1.length : Int)
      ·
       rw [if_pos c27] at H
       have c27b0 : decide (x24_2 < (l0_1.length : Int)) = true := decide_eq_true c27
       clear c27
       by_cases c28 : 0 ≤ x24_2
       ·
        rw [if_pos c28] at H
        have c28b0 : decide (0 ≤ x24_2) = true := decide_eq_true c28
        clear c28
        by_cases c29 : x24_2 < (l0_1.length : Int)
        ·
         rw [if_pos c29] at H
         have c29b0 : decide (x24_2 < (l0_1.length : Int)) = true := decide_eq_true c29
         clear c29
         by_cases c30 : x24_2 < (l1.length : Int)
         ·
          rw [if_pos c30] at H
          have c30b0 : decide (x24_2 < (l1.length : Int)) = true := decide_eq_true c30
          clear c30
          by_cases c31 : (rd l1 x24_2) = 0
          ·
           rw [if_pos c31] at H
           have c31b0 : ((rd l1 x24_2) == 0) = true := beq_iff_eq.mpr c31
           have c31b1 : ((rd l1 x24_2) != 0) = false := bne_eq_false_iff_eq.mpr c31
           clear c31
           have H' := Aside0.mk H
           clear H
           have p153 : 0 ≤ (x24_2 : Int) := of_decide_eq_true (by first | (with_reducible assumption) | assumption)
           have q153 : x24_2 < (l0_1.length : Int) := of_decide_eq_true (by first | (with_reducible assumption) | assumption)
           obtain ⟨ad153, A153_1, c153_1, e153, hx153_0, hx153_1, hl153_1, hi153_1⟩ := at_T62 HR0_1.out x24_2 p153 q153
           cases e153
           replace hx153_0 := Rgn.hx HB.out hx153_0
           replace hx153_1 := Rgn.hx HB.out hx153_1
           have HR153_1 := Aside0.mk hi153_1
           have HC153_1 := Aside0.mk hl153_1
           clear hi153_1 hl153_1
           replace p153 := eq_true p153
           replace q153 := eq_true q153
           go_wp2_with (first | ((with_reducible refine gate_dst (N := 7) rfl ?_); (try (refine gate_guard (by rfl) ?_; dsimp only)); refine Rgn.bx 7 #[.int .i64 0, .slice none 0 0] 62 ?_; intro gb154 hg w32 hbox hb; replace HO_153000 := Aside0.mk (Kd.R_below (Rgn.rq HO_153000.out) hb); have BK154 := Aside0.mk (hbox); have GW154 := Aside0.mk (Rgn.ge hg HB.out); have GE154 := Aside0.mk (Rgn.ge hg HB.out); replace HB := Aside0.mk (below_step (Rgn.bq HB.out) hb); have NB146_154 := Aside0.mk (Rgn.nl hg BK146.out); have NB154_146 := Aside0.mk (Rgn.ng hg BK146.out); replace BK146 := Aside0.mk (Rgn.bb BK146.out hb); have NB147_154 := Aside0.mk (Rgn.nl hg BK147.out); have NB154_147 := Aside0.mk (Rgn.ng hg BK147.out); replace BK147 := Aside0.mk (Rgn.bb BK147.out hb); have NB152_154 := Aside0.mk (Rgn.nl hg BK152.out); have NB154_152 := Aside0.mk (Rgn.ng hg BK152.out); replace BK152 := Aside0.mk (Rgn.bb BK152.out hb); clear hb hbox hg; have hnb33 := NB154_146.out; have hnc33 := NB146_154.out; have hnb34 := NB154_147.out; have hnc34 := NB147_154.out; have hnb35 := NB154_152.out; have hnc35 := NB152_154.out; obtain ⟨hcz36_0, hcz36_1, hfz36_0, hfz36_1⟩ := Rgn.c2 BK154.out; have p155 : 0 ≤ (x24_2 : Int) := of_decide_eq_true (by first | (with_reducible assumption) | assumption); have q155 : x24_2 < (l1.length : Int) := of_decide_eq_true (by first | (with_reducible assumption) | assumption); obtain ⟨ad155, e155, hx155_0⟩ := Kd.at_int HR1.out x24_2 p155 q155; cases e155; have hn155_0 : ad155.block ≠ gb154 := Nat.ne_of_lt (Nat.lt_of_lt_of_le (by have := World.block_lt_of_cell? _ _ hx155_0; first | rwa [add_block] at this | exact this) GW154.out); have hn155_1 : ad155.block ≠ gb154 := Nat.ne_of_lt (Nat.lt_of_lt_of_le (by have := World.block_lt_of_cell? _ _ hx155_0; first | rwa [add_block] at this | exact this) GW154.out); replace hx155_0 := Rgn.hx HB.out hx155_0; replace hx155_0 := (cell_far (p := ⟨gb154, 0, none⟩) (by first | (rw [add_block]; exact hn155_0) | (show (Addr.add _ _).block ≠ _; rw [add_block]; exact hn155_0) | exact hn155_0) (.int .i64 ((rd_T62 l0_1 x24_2).f0))).trans hx155_0; replace hx155_0 := (cell_far (p := ⟨gb154, 1, none⟩) (by first | (rw [add_block]; exact hn155_1) | (show (Addr.add _ _).block ≠ _; rw [add_block]; exact hn155_1) | exact hn155_1) (.slice A153_1 ((rd_T62 l0_1 x24_2).f1).length c153_1)).trans hx155_0; clear hn155_0; clear hn155_1; replace p155 := eq_true p155; replace q155 := eq_true q155))
           go_roundg k2
           case measure => have := HJ2.out; have := HK2.out; omega
           case rel => exact ⟨(wrap64 (x24_2 + 1)), (x153000_2), (u153000), (by first | rfl | (simp; done) | (simp [*]; done)), H', ⟨by have := HJ2.out; have := HK2.out; omega⟩, ⟨by (with_reducible repeat (first | apply Kd.R_alloc | apply Kd.R_drewN | apply Kd.R_drew)); exact Kd.R_mono (Kd.R_far (p := ⟨gb154, 1, none⟩) (Kd.R_far (p := ⟨gb154, 0, none⟩) (Kd.R_types HO_153000.out BK154.out (by decide)) (fun _ hk => hk.2) (.int .i64 ((rd_T62 l0_1 x24_2).f0))) (fun _ hk => hk.2) (.slice A153_1 ((rd_T62 l0_1 x24_2).f1).length c153_1)) (fun _ hk => trivial)⟩, ⟨Rgn.kf BK146.out⟩, ⟨Rgn.kf BK147.out⟩, ⟨Rgn.kf BK152.out⟩, ⟨Rgn.bq HB.out⟩⟩
          ·
           rw [if_neg c31] at H
           have c31b0 : ((rd l1 x24_2) == 0) = false := beq_eq_false_iff_ne.mpr c31
           have c31b1 : ((rd l1 x24_2) != 0) = true := bne_iff_ne.mpr c31
           replace H := Option.bind_eq_some_iff.mp H
           obtain ⟨t156, A370, H⟩ := H
           replace H : (impl_DiskCrash.l0 k2 l1 l0_1 (l0_1.length : Int) (wrap64 (x24_2 + 1)) t156) = some (r1, r2) := H
           have A37 := Aside0.mk A370
           clear A370
           have H' := Aside0.mk H
           clear H
           have p153 : 0 ≤ (x24_2 : Int) := of_decide_eq_true (by first | (with_reducible assumption) | assumption)
           have q153 : x24_2 < (l0_1.length : Int) := of_decide_eq_true (by first | (with_reducible assumption) | assumption)
           obtain ⟨ad153, A153_1, c153_1, e153, hx153_0, hx153_1, hl153_1, hi153_1⟩ := at_T62 HR0_1.out x24_2 p153 q153
           cases e153
           replace hx153_0 := Rgn.hx HB.out hx153_0
           replace hx153_1 := Rgn.hx HB.out hx153_1
           have HR153_1 := Aside0.mk hi153_1
           have HC153_1 := Aside0.mk hl153_1
           clear hi153_1 hl153_1
           replace p153 := eq_true p153
           replace q153 := eq_true q153
           try go_wp2_with (first | ((with_reducible refine gate_dst (N := 7) rfl ?_); (try (refine gate_guard (by rfl) ?_; dsimp only)); refine Rgn.bx 7 #[.int .i64 0, .slice none 0 0] 62 ?_; intro gb154 hg w38 hbox hb; replace HO_153000 := Aside0.mk (Kd.R_below (Rgn.rq HO_153000.out) hb); have BK154 := Aside0.mk (hbox); have GW154 := Aside0.mk (Rgn.ge hg HB.out); have GE154 := Aside0.mk (Rgn.ge hg HB.out); replace HB := Aside0.mk (below_step (Rgn.bq HB.out) hb); have NB146_154 := Aside0.mk (Rgn.nl hg BK146.out); have NB154_146 := Aside0.mk (Rgn.ng hg BK146.out); replace BK146 := Aside0.mk (Rgn.bb BK146.out hb); have NB147_154 := Aside0.mk (Rgn.nl hg BK147.out); have NB154_147 := Aside0.mk (Rgn.ng hg BK147.out); replace BK147 := Aside0.mk (Rgn.bb BK147.out hb); have NB152_154 := Aside0.mk (Rgn.nl hg BK152.out); have NB154_152 := Aside0.mk (Rgn.ng hg BK152.out); replace BK152 := Aside0.mk (Rgn.bb BK152.out hb); clear hb hbox hg; have hnb39 := NB154_146.out; have hnc39 := NB146_154.out; have hnb40 := NB154_147.out; have hnc40 := NB147_154.out; have hnb41 := NB154_152.out; have hnc41 := NB152_154.out; obtain ⟨hcz42_0, hcz42_1, hfz42_0, hfz42_1⟩ := Rgn.c2 BK154.out; have p155 : 0 ≤ (x24_2 : Int) := of_decide_eq_true (by first | (with_reducible assumption) | assumption); have q155 : x24_2 < (l1.length : Int) := of_decide_eq_true (by first | (with_reducible assumption) | assumption); obtain ⟨ad155, e155, hx155_0⟩ := Kd.at_int HR1.out x24_2 p155 q155; cases e155; have hn155_0 : ad155.block ≠ gb154 := Nat.ne_of_lt (Nat.lt_of_lt_of_le (by have := World.block_lt_of_cell? _ _ hx155_0; first | rwa [add_block] at this | exact this) GW154.out); have hn155_1 : ad155.block ≠ gb154 := Nat.ne_of_lt (Nat.lt_of_lt_of_le (by have := World.block_lt_of_cell? _ _ hx155_0; first | rwa [add_block] at this | exact this) GW154.out); replace hx155_0 := Rgn.hx HB.out hx155_0; replace hx155_0 := (cell_far (p := ⟨gb154, 0, none⟩) (by first | (rw [add_block]; exact hn155_0) | (show (Addr.add _ _).block ≠ _; rw [add_block]; exact hn155_0) | exact hn155_0) (.int .i64 ((rd_T62 l0_1 x24_2).f0))).trans hx155_0; replace hx155_0 := (cell_far (p := ⟨gb154, 1, none⟩) (by first | (rw [add_block]; exact hn155_1) | (show (Addr.add _ _).block ≠ _; rw [add_block]; exact hn155_1) | exact hn155_1) (.slice A153_1 ((rd_T62 l0_1 x24_2).f1).length c153_1)).trans hx155_0; clear hn155_0; clear hn155_1; replace p155 := eq_true p155; replace q155 := eq_true q155))
           have n0_ : Aside0 (Kd.R (Kd.int .u8) 5 ((w38.setCell ⟨gb154, 0, none⟩ (.int .i64 ((rd_T62 l0_1 x24_2).f0))).setCell ⟨gb154, 1, none⟩ (.slice A153_1 ((rd_T62 l0_1 x24_2).f1).length c153_1)) w.heap.size (fun _ => True) u153000 x153000_2) := ⟨by (with_reducible repeat (first | apply Kd.R_alloc | apply Kd.R_drewN | apply Kd.R_drew)); exact Kd.R_mono (Kd.R_far (p := ⟨gb154, 1, none⟩) (Kd.R_far (p := ⟨gb154, 0, none⟩) (Kd.R_types HO_153000.out BK154.out (by decide)) (fun _ hk => hk.2) (.int .i64 ((rd_T62 l0_1 x24_2).f0))) (fun _ hk => hk.2) (.slice A153_1 ((rd_T62 l0_1 x24_2).f1).length c153_1)) (fun _ hk => trivial)⟩
           have n1_ : Aside0 (((w38.setCell ⟨gb154, 0, none⟩ (.int .i64 ((rd_T62 l0_1 x24_2).f0))).setCell ⟨gb154, 1, none⟩ (.slice A153_1 ((rd_T62 l0_1 x24_2).f1).length c153_1)).heap[gb146]? = some (.cells #[.slice A0_0 l0_0.length c0_0, .slice (some ad153) l0_1.length c0_1] 29 (0, 0))) := ⟨Rgn.kf BK146.out⟩
           have n2_ : Aside0 (((w38.setCell ⟨gb154, 0, none⟩ (.int .i64 ((rd_T62 l0_1 x24_2).f0))).setCell ⟨gb154, 1, none⟩ (.slice A153_1 ((rd_T62 l0_1 x24_2).f1).length c153_1)).heap[gb147]? = some (.cells #[.slice none 0 0, .slice none 0 0] 29 (0, 0))) := ⟨Rgn.kf BK147.out⟩
           have n3_ : Aside0 (((w38.setCell ⟨gb154, 0, none⟩ (.int .i64 ((rd_T62 l0_1 x24_2).f0))).setCell ⟨gb154, 1, none⟩ (.slice A153_1 ((rd_T62 l0_1 x24_2).f1).length c153_1)).heap[gb152]? = some (.cells #[u153000, .slice none 0 0] 29 (0, 0))) := ⟨Rgn.kf BK152.out⟩
           have n4_ : Aside0 (((w38.setCell ⟨gb154, 0, none⟩ (.int .i64 ((rd_T62 l0_1 x24_2).f0))).setCell ⟨gb154, 1, none⟩ (.slice A153_1 ((rd_T62 l0_1 x24_2).f1).length c153_1)).heap[gb154]? = some (.cells #[.int .i64 ((rd_T62 l0_1 x24_2).f0), .slice A153_1 ((rd_T62 l0_1 x24_2).f1).length c153_1] 62 (0, 0))) := ⟨by (with_reducible repeat (first | refine blk_drewN ?_ _ | refine blk_drew ?_ | refine blk_alloc ?_ _)); refine blk_put (cs := #[.int .i64 ((rd_T62 l0_1 x24_2).f0), .slice none 0 0]) ?_ 1 _ rfl; (with_reducible repeat (first | refine blk_drewN ?_ _ | refine blk_drew ?_ | refine blk_alloc ?_ _)); refine blk_put (cs := #[.int .i64 0, .slice none 0 0]) ?_ 0 _ rfl; (with_reducible repeat (first | refine blk_drewN ?_ _ | refine blk_drew ?_ | refine blk_alloc ?_ _)); exact BK154.out⟩
           have n5_ : Aside0 (Below w.heap.size w ((w38.setCell ⟨gb154, 0, none⟩ (.int .i64 ((rd_T62 l0_1 x24_2).f0))).setCell ⟨gb154, 1, none⟩ (.slice A153_1 ((rd_T62 l0_1 x24_2).f1).length c153_1))) := ⟨Rgn.bq HB.out⟩
           (try clear HO_153000)
           (try clear BK146)
           (try clear BK147)
           (try clear BK152)
           (try clear BK154)
           (try clear HB)
           generalize ((w38.setCell ⟨gb154, 0, none⟩ (.int .i64 ((rd_T62 l0_1 x24_2).f0))).setCell ⟨gb154, 1, none⟩ (.slice A153_1 ((rd_T62 l0_1 x24_2).f1).length c153_1)) = w43 at n0_ n1_ n2_ n3_ n4_ n5_ ⊢
           have HO_153000 := n0_
           have BK146 := n1_
           have BK147 := n2_
           have BK152 := n3_
           have BK154 := n4_
           have HB := n5_
           clear n0_ n1_ n2_ n3_ n4_ n5_
           replace HO_153000 := Aside0.mk (Kd.R_drew HO_153000.out)
           replace BK146 := Aside0.mk (blk_drew BK146.out)
           replace BK147 := Aside0.mk (blk_drew BK147.out)
           replace BK152 := Aside0.mk (blk_drew BK152.out)
           replace BK154 := Aside0.mk (blk_drew BK154.out)
           replace HB := Aside0.mk (below_drew1 HB.out)
           obtain ⟨Ao45, co45, eo45⟩ := Kd.R_slice HO_153000.out
           (first | subst eo45 | (injection eo45 with f1_ f2_ f3_; have f4_ := f1_.symm; have f5_ := f3_.symm; clear f1_ f2_ f3_; subst f4_; subst f5_))
           obtain ⟨iz, hiz, hz1, hz2, hz3⟩ := impl_lay.is A37.out
           obtain ⟨gz, hzA, hzb⟩ : ∃ gz, Ao45 = some (⟨gz, 0, none⟩ : Addr) ∧ w.heap.size ≤ gz := by
            rcases (Kd.own_of_R (enc := Value.int .u8) HO_153000.out).2 with ⟨_, hn0⟩ | ⟨g_, cap_, cur_, hv_, hbg_, _⟩
            ·
             exact absurd hn0 (by omega)
            ·
             injection hv_ with h1_; exact ⟨g_, h1_, hbg_⟩
           have hcapz := (Kd.R_reads' HO_153000.out).2.1
           have hlez : (iz ≤ x153000_2.length) = True := eq_true (by omega)
           have hnez : (co45 = iz) = False := eq_false (by omega)
           refine start_ (n := 9) (S := fun w' => w'.cell? ⟨gb152, 0, none⟩ = some (.slice Ao45 x153000_2.length co45) ∧ w'.cell? ⟨gb152, 1, none⟩ = some (.slice none 0 0) ∧ w'.cell? ⟨gb154, 0, none⟩ = some (.int .i64 ((rd_T62 l0_1 x24_2).f0)) ∧ w'.cell? ⟨gb154, 1, none⟩ = some (.slice A153_1 ((rd_T62 l0_1 x24_2).f1).length c153_1)) (ds := []) #[false, false, false, false, false, false, false, false, false] (by kernel_rfl) rfl rfl ⟨(blk_cell BK152.out 0).trans rfl, (blk_cell BK152.out 1).trans rfl, (blk_cell BK154.out 0).trans rfl, (blk_cell BK154.out 1).trans rfl⟩ (fun hHeld => ?_); refine with_tabW impl_DiskCrash.tab8 impl_DiskCrash.bits8 (fun HT_ HW_ => ?_)
           generalize w43.drew = w44 at HO_153000 BK146 BK147 BK152 BK154 HB hHeld ⊢
           refine Rgn.pu HT_.out 0 40 ?_
           refine Rgn.pu HT_.out 2 42 ?_
           refine Rgn.pu HT_.out 6 46 ?_
           refine Rgn.tk HT_.out HW_.out 1 41 hHeld ?_
           refine Rgn.tk HT_.out HW_.out 3 43 hHeld ?_
           refine Rgn.pu HT_.out 4 44 ?_
           refine Rgn.pu HT_.out 5 45 ?_
           refine Rgn.tk HT_.out HW_.out 7 47 hHeld ?_
           refine one_ (i := 8) (N := some 48) #[true, true, true, true, true, true, true, true, true] rfl rfl (one_of HT_.out (by kernel_rfl)) (by decide) (fun K hK => ?_)
           have HOz : Kd.R (Kd.int .u8) 5 w44 w.heap.size (fun _ => True) (.slice (some ⟨gz, 0, none⟩) x153000_2.length co45) x153000_2 := by have h_ := HO_153000.out; rw [hzA] at h_; exact h_
           refine Cpy.copy_row_wp (.tmp 45) (.tmp 47) 22 22 rfl Try.underlying22 (by kernel_rfl) (x153000_2.length - iz) (co45 - iz) (by rfl) A153_1 ((rd_T62 l0_1 x24_2).f1) ((rd_T62 l0_1 x24_2).f1).length c153_1 (by rfl) rfl (Kd.C_below HR153_1.out HB.out) (by omega) HOz hz1 ?_
           intro w46 hy0 hgr
           replace HO_153000 := Aside0.mk (show Kd.R (Kd.int .u8) 5 w46 w.heap.size (fun _ => True) (.slice Ao45 x153000_2.length co45) t156 by rw [hz3, hzA]; exact hy0)
           replace BK146 := Aside0.mk ((hgr.block _ (blk_lt BK146.out) (fun e_ => Kd.R_ne HOz BK146.out (by decide) (by first | exact e_ | exact e_.symm))).trans BK146.out)
           replace BK147 := Aside0.mk ((hgr.block _ (blk_lt BK147.out) (fun e_ => Kd.R_ne HOz BK147.out (by decide) (by first | exact e_ | exact e_.symm))).trans BK147.out)
           replace BK152 := Aside0.mk ((hgr.block _ (blk_lt BK152.out) (fun e_ => Kd.R_ne HOz BK152.out (by decide) (by first | exact e_ | exact e_.symm))).trans BK152.out)
           replace BK154 := Aside0.mk ((hgr.block _ (blk_lt BK154.out) (fun e_ => Kd.R_ne HOz BK154.out (by decide) (by first | exact e_ | exact e_.symm))).trans BK154.out)
           replace HB := Aside0.mk (Box.below_grown HB.out hgr hzb)
           skip
           skip
           (try clear hy0)
           refine hK.out _ _ ⟨(blk_cell BK152.out 0).trans rfl, (blk_cell BK152.out 1).trans rfl, (blk_cell BK154.out 0).trans rfl, (blk_cell BK154.out 1).trans rfl⟩ (fun hHeld => ?_)
           clear hK K
           refine norm_ (a' := ?_) ?_ ?_
           rotate_left
           ·
            show Act.put _ (some 48) _ = _
            simp only [Act.put, List.setIfInBounds_toArray, List.set_cons_zero, List.set_cons_succ, i64_w, i32_w]
            rfl
           refine done_ (done_of HT_.out (by kernel_rfl)) ?_
           try go_wp2
           go_roundg k2
           case measure => have := HJ2.out; have := HK2.out; omega
           case rel => exact ⟨(wrap64 (x24_2 + 1)), (t156), (.slice Ao45 x153000_2.length co45), (by first | rfl | (simp; done) | (simp [*]; done)), H', ⟨by have := HJ2.out; have := HK2.out; omega⟩, ⟨Rgn.rq HO_153000.out⟩, ⟨Rgn.kb BK146.out⟩, ⟨Rgn.kb BK147.out⟩, ⟨Rgn.kb BK152.out⟩, ⟨Rgn.bq HB.out⟩⟩
         ·
          rw [if_neg c30] at H
          have c30b0 : decide (x24_2 < (l1.length : Int)) = false := decide_eq_false c30
          clear c30
          have H' := Aside0.mk H
          clear H
          have p153 : 0 ≤ (x24_2 : Int) := of_decide_eq_true (by first | (with_reducible assumption) | assumption)
          have q153 : x24_2 < (l0_1.length : Int) := of_decide_eq_true (by first | (with_reducible assumption) | assumption)
          obtain ⟨ad153, A153_1, c153_1, e153, hx153_0, hx153_1, hl153_1, hi153_1⟩ := at_T62 HR0_1.out x24_2 p153 q153
          cases e153
          replace hx153_0 := Rgn.hx HB.out hx153_0
          replace hx153_1 := Rgn.hx HB.out hx153_1
          have HR153_1 := Aside0.mk hi153_1
          have HC153_1 := Aside0.mk hl153_1
          clear hi153_1 hl153_1
          replace p153 := eq_true p153
          replace q153 := eq_true q153
          go_wp2_with (first | ((with_reducible refine gate_dst (N := 7) rfl ?_); (try (refine gate_guard (by rfl) ?_; dsimp only)); refine Rgn.bx 7 #[.int .i64 0, .slice none 0 0] 62 ?_; intro gb154 hg w47 hbox hb; replace HO_153000 := Aside0.mk (Kd.R_below (Rgn.rq HO_153000.out) hb); have BK154 := Aside0.mk (hbox); have GW154 := Aside0.mk (Rgn.ge hg HB.out); have GE154 := Aside0.mk (Rgn.ge hg HB.out); replace HB := Aside0.mk (below_step (Rgn.bq HB.out) hb); have NB146_154 := Aside0.mk (Rgn.nl hg BK146.out); have NB154_146 := Aside0.mk (Rgn.ng hg BK146.out); replace BK146 := Aside0.mk (Rgn.bb BK146.out hb); have NB147_154 := Aside0.mk (Rgn.nl hg BK147.out); have NB154_147 := Aside0.mk (Rgn.ng hg BK147.out); replace BK147 := Aside0.mk (Rgn.bb BK147.out hb); have NB152_154 := Aside0.mk (Rgn.nl hg BK152.out); have NB154_152 := Aside0.mk (Rgn.ng hg BK152.out); replace BK152 := Aside0.mk (Rgn.bb BK152.out hb); clear hb hbox hg; have hnb48 := NB154_146.out; have hnc48 := NB146_154.out; have hnb49 := NB154_147.out; have hnc49 := NB147_154.out; have hnb50 := NB154_152.out; have hnc50 := NB152_154.out; obtain ⟨hcz51_0, hcz51_1, hfz51_0, hfz51_1⟩ := Rgn.c2 BK154.out))
          go_roundg k2
          case measure => have := HJ2.out; have := HK2.out; omega
          case rel => exact ⟨(wrap64 (x24_2 + 1)), (x153000_2), (u153000), (by first | rfl | (simp; done) | (simp [*]; done)), H', ⟨by have := HJ2.out; have := HK2.out; omega⟩, ⟨by (with_reducible repeat (first | apply Kd.R_alloc | apply Kd.R_drewN | apply Kd.R_drew)); exact Kd.R_mono (Kd.R_far (p := ⟨gb154, 1, none⟩) (Kd.R_far (p := ⟨gb154, 0, none⟩) (Kd.R_types HO_153000.out BK154.out (by decide)) (fun _ hk => hk.2) (.int .i64 ((rd_T62 l0_1 x24_2).f0))) (fun _ hk => hk.2) (.slice A153_1 ((rd_T62 l0_1 x24_2).f1).length c153_1)) (fun _ hk => trivial)⟩, ⟨Rgn.kf BK146.out⟩, ⟨Rgn.kf BK147.out⟩, ⟨Rgn.kf BK152.out⟩, ⟨Rgn.bq HB.out⟩⟩
        ·
         rw [if_neg c29] at H
         exact absurd H (by simp)
       ·
        rw [if_neg c28] at H
        exact absurd H (by simp)
      ·
       rw [if_neg c27] at H
       have c27b0 : decide (x24_2 < (l0_1.length : Int)) = false := decide_eq_false c27
       clear c27
       simp only [Option.some.injEq, Prod.mk.injEq] at H
       obtain ⟨rfl, rfl⟩ := H
       have hnb52 := NB152_146.out
       have hnc52 := NB146_152.out
       have hnb53 := NB152_147.out
       have hnc53 := NB147_152.out
       have hcz54_0 := Rgn.cz0 BK152.out
       have hcz54_1 := Rgn.cz1 BK152.out
       have hfz54_0 := blk_frozen BK152.out 0
       have hfz54_1 := blk_frozen BK152.out 1
       obtain ⟨Ao55, co55, eo55⟩ := Kd.R_slice HO_153000.out
       subst eo55
       have hnb56 := NB147_146.out
       have hnc56 := NB146_147.out
       have hcz57_0 := Rgn.cz0 BK147.out
       have hcz57_1 := Rgn.cz1 BK147.out
       have hfz57_0 := blk_frozen BK147.out 0
       have hfz57_1 := blk_frozen BK147.out 1
       go_wp2
       refine bodyPost_ret (results_cell_row rfl _ _ gb147 29 #[.slice Ao55 x153000_2.length co55, .slice none 0 0] (0, 0) _ rfl (by (with_reducible repeat (first | refine blk_drewN ?_ _ | refine blk_drew ?_ | refine blk_alloc ?_ _)); refine blk_put (cs := #[.slice Ao55 x153000_2.length co55, .slice none 0 0]) ?_ 1 _ rfl; (with_reducible repeat (first | refine blk_drewN ?_ _ | refine blk_drew ?_ | refine blk_alloc ?_ _)); refine blk_put (cs := #[.slice none 0 0, .slice none 0 0]) ?_ 0 _ rfl; (with_reducible repeat (first | refine blk_drewN ?_ _ | refine blk_drew ?_ | refine blk_alloc ?_ _)); exact BK147.out) Try.underlying29 rfl (by kernel_rfl)) rfl ?_
       exact ⟨_, _, by first | rfl | (simp [errW_none, errW_some] <;> rfl) | (simp [*, errW_none, errW_some] <;> rfl), by (with_reducible repeat (first | apply Kd.R_alloc | apply Kd.R_drewN | apply Kd.R_drew)); exact Kd.R_mono (Kd.R_far (p := ⟨gb147, 1, none⟩) (Kd.R_far (p := ⟨gb147, 0, none⟩) (Kd.R_types HO_153000.out BK147.out (by decide)) (fun _ hk => hk.2) (.slice Ao55 x153000_2.length co55)) (fun _ hk => hk.2) (.slice none 0 0)) (fun _ hk => trivial), by first | exact Kd.S_nil _ _ _ _ _ | exact Kd.N_nil _ _ _ _ _ | exact Kd.V_nil _ _ _ _ _ | exact Kd.Q_nil _ _ _ _ _ | exact Kd.R_nil _ _ _ _ _, Rgn.bq HB.out⟩

/-! ### spec_l1Blocks: function 70 -/
def spec_l1Blocks.f (l0_0 : List Int) (l0_1 : List (S62)) : Option (Int) := some (wrap64 ((l0_0.length : Int) / 64))
set_option maxHeartbeats 8000000 in
set_option maxRecDepth 100000 in
theorem spec_l1Blocks.calls (A0_0 : Option Addr) (c0_0 : Nat) (l0_0 : List Int) (A0_1 : Option Addr) (c0_1 : Nat) (l0_1 : List (S62)) (r : Int) (w : World) (hr0_0 : Kd.C (Kd.int .u8) w A0_0 l0_0.length l0_0) (hc0_0 : l0_0.length ≤ c0_0) (hr0_1 : Kd.C k62 w A0_1 l0_1.length l0_1) (hc0_1 : l0_1.length ≤ c0_1) (h : spec_l1Blocks.f l0_0 l0_1 = some r) :
  Calls Try.prog 70 #[.agg #[.slice A0_0 l0_0.length c0_0, .slice A0_1 l0_1.length c0_1]] w fun e w' => e = .returned (.int .i64 r) ∧ Below w.heap.size w w' := by
 have hu29 := Try.underlying29
 have HR0_0 := Aside0.mk hr0_0
 have HC0_0 := Aside0.mk hc0_0
 clear hr0_0 hc0_0
 have HR0_1 := Aside0.mk hr0_1
 have HC0_1 := Aside0.mk hc0_1
 clear hr0_1 hc0_1
 have HB := Aside0.mk (Below.refl w.heap.size w)
 have H : (some (wrap64 ((l0_0.length : Int) / 64))) = some r := h
 clear h
 obtain rfl := Option.some.inj H
 go_enter Try.func70, Try.ntmps70
 go_wp2_with (first | ((with_reducible refine gate_dst (N := 1) rfl ?_); refine Rgn.bx 1 #[.slice A0_0 l0_0.length c0_0, .slice A0_1 l0_1.length c0_1] 29 ?_; intro gb157 hg w2 hbox hb; have BK157 := Aside0.mk (hbox); have GW157 := Aside0.mk (Rgn.ge hg HB.out); have GE157 := Aside0.mk (Rgn.ge hg HB.out); replace HB := Aside0.mk (below_step (Rgn.bq HB.out) hb); clear hb hbox hg; obtain ⟨hcz3_0, hcz3_1, hfz3_0, hfz3_1⟩ := Rgn.c2 BK157.out))
 go_ret
 exact ⟨by first | rfl | (simp [errW_none, errW_some] <;> rfl) | (simp [*, errW_none, errW_some] <;> rfl), Rgn.bq HB.out⟩

/-- A state of type 90 at block g of W; what its slices lead to came in by w0. -/
def IsS90 (w0 W : World) (g : Nat) (f0 : List Int) (f1 : Int) (f2 : Int) : Prop := ∃ A0 c0, W.heap[g]? = some (.cells #[.slice A0 f0.length c0, .int .i64 f1, .int .i64 f2] 90 (0, 0)) ∧ w0.heap.size ≤ g ∧ Kd.C (Kd.int .u8) w0 A0 f0.length f0
theorem IsS90.grown {w0 W : World} {g : Nat} {f0 : List Int} {f1 : Int} {f2 : Int} {W1 : World} {row : Option Nat} (h : IsS90 w0 W g f0 f1 f2) (hw : W.grownBy W1 row) (hne : some g ≠ row) : IsS90 w0 W1 g f0 f1 f2 := by
 obtain ⟨A0, c0, hb, hg, hr0⟩ := h
 exact ⟨A0, c0, blk_grown hb hw hne, hg, hr0⟩
theorem IsS90.own_neN {w0 W : World} {g : Nat} {f0 : List Int} {f1 : Int} {f2 : Int} {α : Type} {d : Kd α} {e : Nat} {base : Nat} {ok : Nat → Prop} {v : Value} {xs : List α} (h : IsS90 w0 W g f0 f1 f2) (ho : Kd.N d e W base ok v xs) (ht : e ≠ 90) : some g ≠ v.ownBlock := by
 obtain ⟨A0, c0, hb, hg, hr0⟩ := h
 exact Kd.N_ne ho hb ht
theorem IsS90.fresh {w0 W : World} {g : Nat} {f0 : List Int} {f1 : Int} {f2 : Int} (h : IsS90 w0 W g f0 f1 f2) : ∀ k, W.heap.size ≤ k → k ≠ g := by
 obtain ⟨A0, c0, hb, hg, hr0⟩ := h
 exact Kd.freshB hb
theorem IsS90.kept {w0 W : World} {g : Nat} {f0 : List Int} {f1 : Int} {f2 : Int} {W1 : World} {S : Nat → Prop} (h : IsS90 w0 W g f0 f1 f2) (hk : Kept W W1 S) (hne : ¬ S g) : IsS90 w0 W1 g f0 f1 f2 := by
 obtain ⟨A0, c0, hb, hg, hr0⟩ := h
 exact ⟨A0, c0, blk_kept hb hk hne, hg, hr0⟩
theorem IsS90.below {w0 W : World} {g : Nat} {f0 : List Int} {f1 : Int} {f2 : Int} {W1 : World} (h : IsS90 w0 W g f0 f1 f2) (hw : Below W.heap.size W W1) : IsS90 w0 W1 g f0 f1 f2 := h.grown (grown_of_below hw none) (by simp)
theorem IsS90.alloc {w0 W : World} {g : Nat} {f0 : List Int} {f1 : Int} {f2 : Int} (h : IsS90 w0 W g f0 f1 f2) (o : Obj) : IsS90 w0 (W.alloc o) g f0 f1 f2 := h.below (below_alloc (Below.refl _ _) o)
theorem IsS90.drewN {w0 W : World} {g : Nat} {f0 : List Int} {f1 : Int} {f2 : Int} (h : IsS90 w0 W g f0 f1 f2) (m : Nat) : IsS90 w0 (W.drewN m) g f0 f1 f2 := h
theorem IsS90.drew {w0 W : World} {g : Nat} {f0 : List Int} {f1 : Int} {f2 : Int} (h : IsS90 w0 W g f0 f1 f2) : IsS90 w0 W.drew g f0 f1 f2 := h
theorem IsS90.apart {w0 W : World} {g : Nat} {f0 : List Int} {f1 : Int} {f2 : Int} {α : Type} {d : Kd α} {e : Nat} {base : Nat} {ok : Nat → Prop} {v : Value} {xs : List α} (h : IsS90 w0 W g f0 f1 f2) (ho : d.R e W base ok v xs) (ht : ∀ q, q ∈ e :: d.E → q ≠ 90) : d.R e W base (fun k => ok k ∧ k ≠ g) v xs := by
 obtain ⟨A0, c0, hb, hg, hr0⟩ := h
 exact Kd.R_types ho hb ht
theorem IsS90.own_ne {w0 W : World} {g : Nat} {f0 : List Int} {f1 : Int} {f2 : Int} {α : Type} {d : Kd α} {e : Nat} {base : Nat} {ok : Nat → Prop} {v : Value} {xs : List α} (h : IsS90 w0 W g f0 f1 f2) (ho : d.R e W base ok v xs) (ht : e ≠ 90) : some g ≠ v.ownBlock := by
 obtain ⟨A0, c0, hb, hg, hr0⟩ := h
 exact Kd.R_ne ho hb ht
theorem IsS90.lt {w0 W : World} {g : Nat} {f0 : List Int} {f1 : Int} {f2 : Int} (h : IsS90 w0 W g f0 f1 f2) : g < W.heap.size := by
 obtain ⟨A0, c0, hb, hg, hr0⟩ := h
 exact blk_lt hb
theorem IsS90.ge {w0 W : World} {g : Nat} {f0 : List Int} {f1 : Int} {f2 : Int} (h : IsS90 w0 W g f0 f1 f2) : w0.heap.size ≤ g := by
 obtain ⟨A0, c0, hb, hg, hr0⟩ := h
 exact hg
theorem IsS90.ne_blk {w0 W : World} {g : Nat} {f0 : List Int} {f1 : Int} {f2 : Int} {a : Nat} {cs : Array Value} {t : TypeId} {fr : Nat × Nat} (h : IsS90 w0 W g f0 f1 f2) (hb2 : W.heap[a]? = some (.cells cs t fr)) (ht : t ≠ 90) : g ≠ a := by
 obtain ⟨A0, c0, hb, hg, hr0⟩ := h
 rintro rfl
 rw [hb] at hb2
 injection hb2 with hb2
 injection hb2 with _ ht2
 exact ht ht2.symm
theorem IsS90.far {w0 W : World} {g : Nat} {f0 : List Int} {f1 : Int} {f2 : Int} {p : Addr} (h : IsS90 w0 W g f0 f1 f2) (hne : g ≠ p.block) (u : Value) : IsS90 w0 (W.setCell p u) g f0 f1 f2 := by
 obtain ⟨A0, c0, hb, hg, hr0⟩ := h
 exact ⟨A0, c0, blk_far hb hne u, hg, hr0⟩
theorem cellS90_0 {W : World} {g : Nat} {A0 : Option Addr} {c0 : Nat} {f0 : List Int} {f1 : Int} {f2 : Int} (h : W.heap[g]? = some (.cells #[.slice A0 f0.length c0, .int .i64 f1, .int .i64 f2] 90 (0, 0))) : W.cell? ⟨g, 0, none⟩ = some (.slice A0 f0.length c0) := (blk_cell h 0).trans rfl
theorem cellS90_1 {W : World} {g : Nat} {A0 : Option Addr} {c0 : Nat} {f0 : List Int} {f1 : Int} {f2 : Int} (h : W.heap[g]? = some (.cells #[.slice A0 f0.length c0, .int .i64 f1, .int .i64 f2] 90 (0, 0))) : W.cell? ⟨g, 1, none⟩ = some (.int .i64 f1) := (blk_cell h 1).trans rfl
theorem IsS90.set_1 {w0 W : World} {g : Nat} {f0 : List Int} {f1 : Int} {f2 : Int} (h : IsS90 w0 W g f0 f1 f2) (x : Int) : IsS90 w0 (W.setCell ⟨g, 1, none⟩ (.int .i64 x)) g f0 x f2 := by
 obtain ⟨A0, c0, hb, hg, hr0⟩ := h
 exact ⟨A0, c0, by simpa using blk_set hb 1 (.int .i64 x), hg, hr0⟩
theorem cellS90_2 {W : World} {g : Nat} {A0 : Option Addr} {c0 : Nat} {f0 : List Int} {f1 : Int} {f2 : Int} (h : W.heap[g]? = some (.cells #[.slice A0 f0.length c0, .int .i64 f1, .int .i64 f2] 90 (0, 0))) : W.cell? ⟨g, 2, none⟩ = some (.int .i64 f2) := (blk_cell h 2).trans rfl
theorem IsS90.set_2 {w0 W : World} {g : Nat} {f0 : List Int} {f1 : Int} {f2 : Int} (h : IsS90 w0 W g f0 f1 f2) (x : Int) : IsS90 w0 (W.setCell ⟨g, 2, none⟩ (.int .i64 x)) g f0 f1 x := by
 obtain ⟨A0, c0, hb, hg, hr0⟩ := h
 exact ⟨A0, c0, by simpa using blk_set hb 2 (.int .i64 x), hg, hr0⟩
theorem IsS90.q {w0 W : World} {g : Nat} {f0 : List Int} {f1 : Int} {f2 : Int} {f0' : List Int} {f1' : Int} {f2' : Int} {W' : World} (h : IsS90 w0 W g f0 f1 f2) (hq : IsS90 w0 W g f0 f1 f2 → IsS90 w0 W' g f0' f1' f2' := by intro h_; repeat (first | (with_reducible first | exact h_ | apply IsS90.alloc | apply IsS90.drewN | apply IsS90.drew | apply IsS90.set_1 | apply IsS90.set_2 | refine IsS90.far ?_ (Aside0.out (by assumption)) _) | exact h_)) : IsS90 w0 W' g f0' f1' f2' := hq h

/-! ### spec_l1Source: function 80 -/
def spec_l1Source.f (l0 : List Int) : Option (List Int × Int × Int) := if (wrap64 ((l0.length : Int) / 16)) > 12 then (some (l0, 0, 12)) else (some (l0, 0, wrap64 ((l0.length : Int) / 16)))
set_option maxHeartbeats 8000000 in
set_option maxRecDepth 100000 in
theorem spec_l1Source.calls (A0 : Option Addr) (c0 : Nat) (l0 : List Int) (r1 : List Int) (r2 : Int) (r3 : Int) (w0 w : World) (hB : Below w0.heap.size w0 w) (hr0 : Kd.C (Kd.int .u8) w0 A0 l0.length l0) (hc0 : l0.length ≤ c0) (h : spec_l1Source.f l0 = some (r1, r2, r3)) :
  Calls Try.prog 80 #[.slice A0 l0.length c0] w fun e w' => ∃ g_ : Nat, e = .returned (.pointer (some ⟨g_, 0, none⟩)) ∧ IsS90 w0 w' g_ r1 r2 r3 ∧ Below w0.heap.size w0 w' ∧ Below w.heap.size w w' := by
 have hu90 := Try.underlying90
 have HR0 := Aside0.mk hr0
 have HC0 := Aside0.mk hc0
 clear hr0 hc0
 have HBW := Aside0.mk (Below.refl w.heap.size w)
 have HW0 := Aside0.mk hB.size
 have HB := Aside0.mk hB
 clear hB
 have H : (if (wrap64 ((l0.length : Int) / 16)) > 12 then (some (l0, 0, 12)) else (some (l0, 0, wrap64 ((l0.length : Int) / 16)))) = some (r1, r2, r3) := h
 clear h
 by_cases c2 : (wrap64 ((l0.length : Int) / 16)) > 12
 ·
  rw [if_pos c2] at H
  have c2b0 : decide (12 < (wrap64 ((l0.length : Int) / 16))) = true := decide_eq_true c2
  clear c2
  simp only [Option.some.injEq, Prod.mk.injEq] at H
  obtain ⟨rfl, rfl, rfl⟩ := H
  go_enter Try.func80, Try.ntmps80
  go_wp2_with (first | ((with_reducible refine gate_dst (N := 14) rfl ?_); refine Rgn.bx 14 #[.slice A0 l0.length c0, .int .i64 0, .int .i64 12] 90 ?_; intro gb158 hg w3 hbox hb; replace HB := Aside0.mk (below_step (Rgn.bq HB.out) hb); have BK158 := Aside0.mk (hbox); have GW158 := Aside0.mk ((by rw [hg]; exact (below_size (by repeat (first | (with_reducible first | exact HBW.out | apply below_alloc | apply pw_below_drewN | apply below_drew1) | exact HBW.out))) : w.heap.size ≤ gb158)); have GE158 := Aside0.mk ((Nat.le_trans HW0.out (by rw [hg]; exact (below_size (by repeat (first | (with_reducible first | exact HBW.out | apply below_alloc | apply pw_below_drewN | apply below_drew1) | exact HBW.out))) : w.heap.size ≤ gb158) : w0.heap.size ≤ gb158)); replace HBW := Aside0.mk (below_step HBW.out hb); clear hb hbox hg))
  go_ret
  exact ⟨_, rfl, (show IsS90 w0 _ gb158 l0 0 12 from ⟨_, _, Rgn.kf BK158.out, GE158.out, HR0.out⟩), Rgn.bq HB.out, by repeat (first | (with_reducible first | exact HBW.out | apply below_alloc | apply pw_below_drewN | apply below_drew1 | refine below_set ?_ GW158.out) | exact HBW.out)⟩
 ·
  rw [if_neg c2] at H
  have c2b0 : decide (12 < (wrap64 ((l0.length : Int) / 16))) = false := decide_eq_false c2
  clear c2
  simp only [Option.some.injEq, Prod.mk.injEq] at H
  obtain ⟨rfl, rfl, rfl⟩ := H
  go_enter Try.func80, Try.ntmps80
  go_wp2_with (first | ((with_reducible refine gate_dst (N := 14) rfl ?_); refine Rgn.bx 14 #[.slice A0 l0.length c0, .int .i64 0, .int .i64 (wrap64 ((l0.length : Int) / 16))] 90 ?_; intro gb159 hg w4 hbox hb; replace HB := Aside0.mk (below_step (Rgn.bq HB.out) hb); have BK159 := Aside0.mk (hbox); have GW159 := Aside0.mk ((by rw [hg]; exact (below_size (by repeat (first | (with_reducible first | exact HBW.out | apply below_alloc | apply pw_below_drewN | apply below_drew1) | exact HBW.out))) : w.heap.size ≤ gb159)); have GE159 := Aside0.mk ((Nat.le_trans HW0.out (by rw [hg]; exact (below_size (by repeat (first | (with_reducible first | exact HBW.out | apply below_alloc | apply pw_below_drewN | apply below_drew1) | exact HBW.out))) : w.heap.size ≤ gb159) : w0.heap.size ≤ gb159)); replace HBW := Aside0.mk (below_step HBW.out hb); clear hb hbox hg))
  go_ret
  exact ⟨_, rfl, (show IsS90 w0 _ gb159 l0 0 (wrap64 ((l0.length : Int) / 16)) from ⟨_, _, Rgn.kf BK159.out, GE159.out, HR0.out⟩), Rgn.bq HB.out, by repeat (first | (with_reducible first | exact HBW.out | apply below_alloc | apply pw_below_drewN | apply below_drew1 | refine below_set ?_ GW159.out) | exact HBW.out)⟩

end Go.Proofs.Ytdhjhadcadcceaa.PFnDisk
