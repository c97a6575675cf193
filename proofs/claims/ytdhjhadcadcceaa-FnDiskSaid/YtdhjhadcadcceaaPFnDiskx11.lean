-- written by a program of this session (wip/src/print2.py)
import Derived.Test.YtdhjhadcadcceaaPFnDiskx0
import Derived.Test.YtdhjhadcadcceaaPFnDiskx9
import Derived.Test.YtdhjhadcadcceaaPFnDiskx10
namespace Go.Proofs.Ytdhjhadcadcceaa.PFnDisk
open Go.RowKit Go.Proofs.YtdhjhadcadcceaaW.PrintWords Go.Proofs.YtdhjhadcadcceaaW.PrintLast Go.Proofs.YtdhjhadcadcceaaW.PrintMore
attribute [local go_sem] max2_int min2_int max_two min_two max_three min_three max_four min_four   -- for this text's walks alone
set_option linter.unusedVariables false
set_option linter.unusedSimpArgs false

/-! ### spec_DiskDo: function 47 -/
mutual
def spec_DiskDo.j0 : Nat → List (S93) → Int → Bool → List Int → List (S62) → Option (List Int × (List (S62)))
 | 0, _, _, _, _, _ => none
 | k + 1, x1, x2, x18, x450000, x450001 => if x18 = true then (some (([] : List Int), ([] : List (S62)))) else ((spec_l1CopyDisk.f k x450000 x450001).bind fun bt452 => (spec_DiskDo.l0 k x1 x2 0 bt452.1 bt452.2))
def spec_DiskDo.l0 : Nat → List (S93) → Int → Int → List Int → List (S62) → Option (List Int × (List (S62)))
 | 0, _, _, _, _, _ => none
 | k + 1, x1, x2, x8, x459000, x459001 => if x8 < (x1.length : Int) then (if x2 < 0 then (spec_DiskDo.j2 k x1 x2 x8 true x459000 x459001) else (spec_DiskDo.j2 k x1 x2 x8 (decide (x8 < x2)) x459000 x459001)) else (spec_DiskDo.j2 k x1 x2 x8 false x459000 x459001)
def spec_DiskDo.j2 : Nat → List (S93) → Int → Int → Bool → List Int → List (S62) → Option (List Int × (List (S62)))
 | 0, _, _, _, _, _, _ => none
 | k + 1, x1, x2, x8, x34, x459000, x459001 => if x34 = true then (if 0 ≤ x8 then (if x8 < (x1.length : Int) then ((spec_l1Do.f k x459000 x459001 ((rd_T93 x1 x8).f0) ((rd_T93 x1 x8).f1) ((rd_T93 x1 x8).f2)).bind fun bt460 => (if bt460.2.2 = true then (spec_DiskDo.l0 k x1 x2 (wrap64 (x8 + 1)) bt460.1 bt460.2.1) else (some (([] : List Int), ([] : List (S62)))))) else (none)) else (none)) else (some (x459000, x459001))
end
def spec_DiskDo.f (k : Nat) (l0_0 : List Int) (l0_1 : List (S62)) (l1 : List (S93)) (a2 : Int) : Option (List Int × (List (S62))) := (spec_ValidDisk.f k l0_0 l0_1).bind fun t451 => (if t451 = true then (spec_DiskDo.j0 k l1 a2 (decide ((l1.length : Int) > 4000)) l0_0 l0_1) else (spec_DiskDo.j0 k l1 a2 true l0_0 l0_1))
def spec_DiskDo.T7 : Bool × List (List Nat × List Nat) := (true, [([], []), ([], []), ([], []), ([1, 2], [1, 2]), ([3], [3]), ([0, 4], [0, 4]), ([5], [5]), ([6], [6]), ([6], [6]), ([], []), ([9, 7, 5, 0, 1, 2, 3, 4, 5, 6, 7, 9], [7, 9]), ([8, 10, 0, 1, 2, 3, 4, 5, 6, 7, 8, 9, 10], [8])])
def spec_DiskDo.B7 : List Nat := [0, 0, 0, 6, 14, 31, 63, 127, 127, 0, 767, 2047]
theorem spec_DiskDo.tab7 : rtab .any (opsOf Try.f47 7) = spec_DiskDo.T7 := by kernel_rfl
theorem spec_DiskDo.bits7 : waitsOk spec_DiskDo.T7.2 spec_DiskDo.B7 = true := by kernel_rfl
set_option maxHeartbeats 8000000 in
set_option maxRecDepth 100000 in
theorem spec_DiskDo.calls (k : Nat) (A0_0 : Option Addr) (c0_0 : Nat) (l0_0 : List Int) (A0_1 : Option Addr) (c0_1 : Nat) (l0_1 : List (S62)) (A1 : Option Addr) (c1 : Nat) (l1 : List (S93)) (a2 : Int) (r1 : List Int) (r2 : List (S62)) (w : World) (hr0_0 : Kd.C (Kd.int .u8) w A0_0 l0_0.length l0_0) (hc0_0 : l0_0.length ≤ c0_0) (hr0_1 : Kd.C k62 w A0_1 l0_1.length l0_1) (hc0_1 : l0_1.length ≤ c0_1) (hr1 : Kd.C k93 w A1 l1.length l1) (hc1 : l1.length ≤ c1) (h : spec_DiskDo.f k l0_0 l0_1 l1 a2 = some (r1, r2)) :
  Calls Try.prog 47 #[.agg #[.slice A0_0 l0_0.length c0_0, .slice A0_1 l0_1.length c0_1], .slice A1 l1.length c1, .int .i64 a2] w fun e w' => ∃ v0_ v1_ : Value, e = .returned (.agg #[v0_, v1_]) ∧ Kd.R (Kd.int .u8) 5 w' w.heap.size (fun k_ => (w.heap.size ≤ k_)) v0_ r1 ∧ Kd.S k62 62 w' w.heap.size (fun k_ => (w.heap.size ≤ k_) ∧ some k_ ≠ (v0_ : Value).ownBlock) v1_ r2 ∧ Below w.heap.size w w' := by
 have hu29 := Try.underlying29
 have hu93 := Try.underlying93
 have HR0_0 := Aside0.mk hr0_0
 have HC0_0 := Aside0.mk hc0_0
 clear hr0_0 hc0_0
 have HR0_1 := Aside0.mk hr0_1
 have HC0_1 := Aside0.mk hc0_1
 clear hr0_1 hc0_1
 have HR1 := Aside0.mk hr1
 have HC1 := Aside0.mk hc1
 clear hr1 hc1
 have HB := Aside0.mk (Below.refl w.heap.size w)
 have H : ((spec_ValidDisk.f k l0_0 l0_1).bind fun t451 => (if t451 = true then (spec_DiskDo.j0 k l1 a2 (decide ((l1.length : Int) > 4000)) l0_0 l0_1) else (spec_DiskDo.j0 k l1 a2 true l0_0 l0_1))) = some (r1, r2) := h
 clear h
 have HC4 := Aside0.mk H
 clear H
 go_enter Try.func47, Try.ntmps47
 go_upto_region 1 with (first | ((with_reducible refine gate_dst (N := 3) rfl ?_); (try (refine gate_guard (by rfl) ?_; dsimp only)); refine Rgn.bx 3 #[.slice A0_0 l0_0.length c0_0, .slice A0_1 l0_1.length c0_1] 29 ?_; intro gb449 hg w5 hbox hb; have BK449 := Aside0.mk (hbox); have GW449 := Aside0.mk (Rgn.ge hg HB.out); have GE449 := Aside0.mk (Rgn.ge hg HB.out); replace HB := Aside0.mk (below_step (Rgn.bq HB.out) hb); clear hb hbox hg) | ((with_reducible refine gate_dst (N := 6) rfl ?_); (try (refine gate_guard (by rfl) ?_; dsimp only)); refine Rgn.bx 6 #[.slice none 0 0, .slice none 0 0] 29 ?_; intro gb450 hg w6 hbox hb; have BK450 := Aside0.mk (hbox); have GW450 := Aside0.mk (Rgn.ge hg HB.out); have GE450 := Aside0.mk (Rgn.ge hg HB.out); replace HB := Aside0.mk (below_step (Rgn.bq HB.out) hb); have NB449_450 := Aside0.mk (Rgn.nl hg BK449.out); have NB450_449 := Aside0.mk (Rgn.ng hg BK449.out); replace BK449 := Aside0.mk (Rgn.bb BK449.out hb); clear hb hbox hg))
 (try simp only [Act.put, List.setIfInBounds_toArray, List.set_cons_zero, List.set_cons_succ])
 go_cut [18] (fun v18 wc => ∃ (kq : Nat) (x18_3 : Bool), v18 = .bool x18_3 ∧ Aside0 (spec_DiskDo.j0 kq l1 a2 x18_3 l0_0 l0_1 = some (r1, r2)) ∧ Aside0 (kq ≤ k) ∧ Aside0 (wc.heap[gb449]? = some (.cells #[(.slice A0_0 l0_0.length c0_0), (.slice A0_1 l0_1.length c0_1)] 29 (0, 0))) ∧ Aside0 (wc.heap[gb450]? = some (.cells #[(.slice none 0 0), (.slice none 0 0)] 29 (0, 0))) ∧ Aside0 (Below w.heap.size w wc))
 case first =>
  have H := HC4.out
  clear HC4
  replace H := Option.bind_eq_some_iff.mp H
  obtain ⟨t451, A70, H⟩ := H
  replace H : (if t451 = true then (spec_DiskDo.j0 k l1 a2 (decide ((l1.length : Int) > 4000)) l0_0 l0_1) else (spec_DiskDo.j0 k l1 a2 true l0_0 l0_1)) = some (r1, r2) := H
  have A7 := Aside0.mk A70
  clear A70
  by_cases c8 : t451 = true
  ·
   subst c8
   have H1 : (spec_DiskDo.j0 k l1 a2 (decide ((l1.length : Int) > 4000)) l0_0 l0_1) = some (r1, r2) := by rw [if_pos rfl] at H; exact H
   clear H
   have H := H1
   clear H1
   have H' := Aside0.mk H
   clear H
   have hnb9 := NB449_450.out
   have hnc9 := NB450_449.out
   have hcz10_0 := Rgn.cz0 BK449.out
   have hcz10_1 := Rgn.cz1 BK449.out
   have hfz10_0 := blk_frozen BK449.out 0
   have hfz10_1 := blk_frozen BK449.out 1
   go_wp2_with (first | ((with_reducible refine gate_callee (f := 26) rfl ?_); refine Rgn.gl (some 12) Try.func26 #[.agg #[.slice A0_0 l0_0.length c0_0, .slice A0_1 l0_1.length c0_1]] ?_; (with_reducible refine (spec_ValidDisk.calls k _ _ l0_0 _ _ l0_1 true _ ?side1 ?side2 ?side3 ?side4 A7.out).mono ?_); (case side1 => exact Rgn.cq (Kd.C_below HR0_0.out HB.out)); (case side2 => exact HC0_0.out); (case side3 => exact Rgn.cq (Kd.C_below HR0_1.out HB.out)); (case side4 => exact HC0_1.out); rintro e w11 ⟨rfl, hb⟩; refine ⟨_, rfl, ?_⟩; replace BK449 := Aside0.mk (Rgn.bb BK449.out hb); replace BK450 := Aside0.mk (Rgn.bb BK450.out hb); replace HB := Aside0.mk (below_step (Rgn.bq HB.out) hb); (try clear hb)))
   go_meet
   case rel => exact ⟨_, (decide ((l1.length : Int) > 4000)), (by first | rfl | (simp; done) | (simp [*]; done)), H', ⟨by first | omega | exact Nat.le_refl _⟩, ⟨Rgn.kb BK449.out⟩, ⟨Rgn.kb BK450.out⟩, ⟨Rgn.bq HB.out⟩⟩
  ·
   replace c8 := Bool.eq_false_iff.mpr c8
   subst c8
   have H1 : (spec_DiskDo.j0 k l1 a2 true l0_0 l0_1) = some (r1, r2) := by rw [if_neg (show ¬ (false = true) by decide)] at H; exact H
   clear H
   have H := H1
   clear H1
   have H' := Aside0.mk H
   clear H
   have hnb12 := NB449_450.out
   have hnc12 := NB450_449.out
   have hcz13_0 := Rgn.cz0 BK449.out
   have hcz13_1 := Rgn.cz1 BK449.out
   have hfz13_0 := blk_frozen BK449.out 0
   have hfz13_1 := blk_frozen BK449.out 1
   go_wp2_with (first | ((with_reducible refine gate_callee (f := 26) rfl ?_); refine Rgn.gl (some 12) Try.func26 #[.agg #[.slice A0_0 l0_0.length c0_0, .slice A0_1 l0_1.length c0_1]] ?_; (with_reducible refine (spec_ValidDisk.calls k _ _ l0_0 _ _ l0_1 false _ ?side1 ?side2 ?side3 ?side4 A7.out).mono ?_); (case side1 => exact Rgn.cq (Kd.C_below HR0_0.out HB.out)); (case side2 => exact HC0_0.out); (case side3 => exact Rgn.cq (Kd.C_below HR0_1.out HB.out)); (case side4 => exact HC0_1.out); rintro e w14 ⟨rfl, hb⟩; refine ⟨_, rfl, ?_⟩; replace BK449 := Aside0.mk (Rgn.bb BK449.out hb); replace BK450 := Aside0.mk (Rgn.bb BK450.out hb); replace HB := Aside0.mk (below_step (Rgn.bq HB.out) hb); (try clear hb)))
   go_meet
   case rel => exact ⟨_, (true), (by first | rfl | (simp; done) | (simp [*]; done)), H', ⟨by first | omega | exact Nat.le_refl _⟩, ⟨Rgn.kb BK449.out⟩, ⟨Rgn.kb BK450.out⟩, ⟨Rgn.bq HB.out⟩⟩
 case rest =>
  clear HC4
  try clear c1
  try clear c2
  try clear p2
  try clear c4
  try clear c8
  try clear c9
  try clear c12
  try clear hcz10_0 hcz10_1
  try clear hcz13_0 hcz13_1
  try clear hfz10_0 hfz10_1
  try clear hfz13_0 hfz13_1
  obtain ⟨kq, x18_3, rfl, HA, HJ3, BK449, BK450, HB⟩ := hcut
  cases kq with
  | zero => exact absurd HA.out (by simp [spec_DiskDo.j0])
  | succ kj3 =>
   have H := HA.out
   clear HA
   simp only [spec_DiskDo.j0] at H
   by_cases c15 : x18_3 = true
   ·
    subst c15
    have H1 : (some (([] : List Int), ([] : List (S62)))) = some (r1, r2) := by rw [if_pos rfl] at H; exact H
    clear H
    have H := H1
    clear H1
    simp only [Option.some.injEq, Prod.mk.injEq] at H
    obtain ⟨rfl, rfl⟩ := H
    have hnb16 := NB450_449.out
    have hnc16 := NB449_450.out
    have hcz17_0 := Rgn.cz0 BK450.out
    have hcz17_1 := Rgn.cz1 BK450.out
    have hfz17_0 := blk_frozen BK450.out 0
    have hfz17_1 := blk_frozen BK450.out 1
    go_wp2
    refine bodyPost_ret (results_cell_row rfl _ _ gb450 29 #[.slice none 0 0, .slice none 0 0] (0, 0) _ rfl (by (with_reducible repeat (first | refine blk_drewN ?_ _ | refine blk_drew ?_ | refine blk_alloc ?_ _)); refine blk_put (cs := #[.slice none 0 0, .slice none 0 0]) ?_ 1 _ rfl; (with_reducible repeat (first | refine blk_drewN ?_ _ | refine blk_drew ?_ | refine blk_alloc ?_ _)); refine blk_put (cs := #[.slice none 0 0, .slice none 0 0]) ?_ 0 _ rfl; (with_reducible repeat (first | refine blk_drewN ?_ _ | refine blk_drew ?_ | refine blk_alloc ?_ _)); exact BK450.out) Try.underlying29 rfl (by kernel_rfl)) rfl ?_
    exact ⟨_, _, by first | rfl | (simp [errW_none, errW_some] <;> rfl) | (simp [*, errW_none, errW_some] <;> rfl), by first | exact Kd.R_nil _ _ _ _ _ | exact Kd.N_nil _ _ _ _ _ | exact Kd.V_nil _ _ _ _ _ | exact Kd.Q_nil _ _ _ _ _ | exact Kd.S_nil _ _ _ _ _, (by first | exact Kd.S_nil _ _ _ _ _ | exact Kd.N_nil _ _ _ _ _ | exact Kd.V_nil _ _ _ _ _ | exact Kd.Q_nil _ _ _ _ _ | exact Kd.R_nil _ _ _ _ _), Rgn.bq HB.out⟩
   ·
    replace c15 := Bool.eq_false_iff.mpr c15
    subst c15
    have H1 : ((spec_l1CopyDisk.f kj3 l0_0 l0_1).bind fun bt452 => (spec_DiskDo.l0 kj3 l1 a2 0 bt452.1 bt452.2)) = some (r1, r2) := by rw [if_neg (show ¬ (false = true) by decide)] at H; exact H
    clear H
    have H := H1
    clear H1
    replace H := Option.bind_eq_some_iff.mp H
    obtain ⟨⟨t452, t455⟩, A180, H⟩ := H
    replace H : (spec_DiskDo.l0 kj3 l1 a2 0 t452 t455) = some (r1, r2) := H
    have A18 := Aside0.mk A180
    clear A180
    have H' := Aside0.mk H
    clear H
    have hnb19 := NB449_450.out
    have hnc19 := NB450_449.out
    have hcz20_0 := Rgn.cz0 BK449.out
    have hcz20_1 := Rgn.cz1 BK449.out
    have hfz20_0 := blk_frozen BK449.out 0
    have hfz20_1 := blk_frozen BK449.out 1
    go_wp2_with (first | ((with_reducible refine gate_callee (f := 78) rfl ?_); refine Rgn.gl (some 21) Try.func78 #[.agg #[.slice A0_0 l0_0.length c0_0, .slice A0_1 l0_1.length c0_1]] ?_; (with_reducible refine (spec_l1CopyDisk.calls kj3 _ _ l0_0 _ _ l0_1 t452 t455 _ ?side1 ?side2 ?side3 ?side4 A18.out).mono ?_); (case side1 => exact Rgn.cq (Kd.C_below HR0_0.out HB.out)); (case side2 => exact HC0_0.out); (case side3 => exact Rgn.cq (Kd.C_below HR0_1.out HB.out)); (case side4 => exact HC0_1.out); rintro e w21 ⟨v453, v456, rfl, ho0, ho1, hb⟩; refine ⟨_, rfl, ?_⟩; have HO454 := Aside0.mk (Kd.R_lower (Kd.R_newM (M := fun k_ => (w.heap.size ≤ k_)) ho0 (below_size (Rgn.bq HB.out)) (fun k_ h_ => h_)) (below_size (Rgn.bq HB.out))); have HO457 := Aside0.mk (Kd.S_lower (Kd.S_newM (M := fun k_ => (w.heap.size ≤ k_)) ho1 (below_size (Rgn.bq HB.out)) (fun k_ h_ => h_)) (below_size (Rgn.bq HB.out))); replace BK449 := Aside0.mk (Rgn.bb BK449.out hb); replace BK450 := Aside0.mk (Rgn.bb BK450.out hb); replace HB := Aside0.mk (below_step (Rgn.bq HB.out) hb); (try clear hb); (try clear ho0); (try clear ho1)) | ((with_reducible refine gate_dst (N := 7) rfl ?_); (try (refine gate_guard (by rfl) ?_; dsimp only)); refine Rgn.bx 7 #[.slice none 0 0, .slice none 0 0] 29 ?_; intro gb458 hg w22 hbox hb; replace HO454 := Aside0.mk (Kd.R_below (Rgn.rq HO454.out) hb); replace HO457 := Aside0.mk (Kd.S_below (Rgn.sq HO457.out) hb); have BK458 := Aside0.mk (hbox); have GW458 := Aside0.mk (Rgn.ge hg HB.out); have GE458 := Aside0.mk (Rgn.ge hg HB.out); replace HB := Aside0.mk (below_step (Rgn.bq HB.out) hb); have NB449_458 := Aside0.mk (Rgn.nl hg BK449.out); have NB458_449 := Aside0.mk (Rgn.ng hg BK449.out); replace BK449 := Aside0.mk (Rgn.bb BK449.out hb); have NB450_458 := Aside0.mk (Rgn.nl hg BK450.out); have NB458_450 := Aside0.mk (Rgn.ng hg BK450.out); replace BK450 := Aside0.mk (Rgn.bb BK450.out hb); clear hb hbox hg; obtain ⟨Ao23, co23, eo23⟩ := Kd.R_slice HO454.out; subst eo23; have hnb24 := NB458_449.out; have hnc24 := NB449_458.out; have hnb25 := NB458_450.out; have hnc25 := NB450_458.out; obtain ⟨hcz26_0, hcz26_1, hfz26_0, hfz26_1⟩ := Rgn.c2 BK458.out; obtain ⟨Ao27, co27, eo27⟩ := Kd.S_slice HO457.out; subst eo27))
    go_loopg [8] kj3 (fun kq v8 w' => ∃ (x8_2 : Int) (x459000_2 : List Int) (x459001_2 : List (S62)) (u459000 : Value) (u459001 : Value), v8 = .int .i64 x8_2 ∧ Aside0 (spec_DiskDo.l0 kq l1 a2 x8_2 x459000_2 x459001_2 = some (r1, r2)) ∧ Aside0 (kq ≤ kj3) ∧ Aside0 (Kd.R (Kd.int .u8) 5 w' w.heap.size (fun k_ => (w.heap.size ≤ k_)) u459000 x459000_2) ∧ Aside0 (Kd.S k62 62 w' w.heap.size (fun k_ => (w.heap.size ≤ k_) ∧ some k_ ≠ (u459000 : Value).ownBlock ∧ k_ ≠ gb449 ∧ k_ ≠ gb450 ∧ k_ ≠ gb458) u459001 x459001_2) ∧ Aside0 (w'.heap[gb449]? = some (.cells #[(.slice A0_0 l0_0.length c0_0), (.slice A0_1 l0_1.length c0_1)] 29 (0, 0))) ∧ Aside0 (w'.heap[gb450]? = some (.cells #[(.slice none 0 0), (.slice none 0 0)] 29 (0, 0))) ∧ Aside0 (w'.heap[gb458]? = some (.cells #[u459000, u459001] 29 (0, 0))) ∧ Aside0 (Below w.heap.size w w'))
    case atStart => exact ⟨(0), (t452), (t455), (.slice Ao23 t452.length co23), (.slice Ao27 t455.length co27), (by first | rfl | (simp; done) | (simp [*]; done)), H', ⟨Nat.le_refl _⟩, ⟨by (with_reducible repeat (first | apply Kd.R_alloc | apply Kd.R_drewN | apply Kd.R_drew)); exact Kd.R_mono (Kd.R_far (p := ⟨gb458, 1, none⟩) (Kd.R_far (p := ⟨gb458, 0, none⟩) (Kd.R_types HO454.out BK458.out (by decide)) (fun _ hk => hk.2) (.slice Ao23 t452.length co23)) (fun _ hk => hk.2) (.slice Ao27 t455.length co27)) (fun _ hk => hk.1.1)⟩, ⟨(Rgn.sq (Kd.S_mono (Kd.S_far (p := ⟨gb458, 1, none⟩) (Kd.S_far (p := ⟨gb458, 0, none⟩) (Kd.S_types (Kd.S_types (Kd.S_types (Kd.S_types HO457.out BK449.out (by decide)) BK450.out (by decide)) BK458.out (by decide)) BK458.out (by decide)) (fun _ hk => hk.2) (.slice Ao23 t452.length co23)) (fun _ hk => hk.2) (.slice Ao27 t455.length co27)) (fun _ hk => ⟨hk.1.1.1.1.1, ⟨hk.1.1.1.1.2, ⟨hk.1.1.1.2, ⟨hk.1.1.2, hk.1.2⟩⟩⟩⟩)))⟩, ⟨Rgn.kf BK449.out⟩, ⟨Rgn.kf BK450.out⟩, ⟨by (with_reducible repeat (first | refine blk_drewN ?_ _ | refine blk_drew ?_ | refine blk_alloc ?_ _)); refine blk_put (cs := #[.slice Ao23 t452.length co23, .slice none 0 0]) ?_ 1 _ rfl; (with_reducible repeat (first | refine blk_drewN ?_ _ | refine blk_drew ?_ | refine blk_alloc ?_ _)); refine blk_put (cs := #[.slice none 0 0, .slice none 0 0]) ?_ 0 _ rfl; (with_reducible repeat (first | refine blk_drewN ?_ _ | refine blk_drew ?_ | refine blk_alloc ?_ _)); exact BK458.out⟩, ⟨Rgn.bq HB.out⟩⟩
    case round =>
     clear H'
     try clear c1
     try clear c2
     try clear p2
     try clear c4
     try clear c7
     try clear c8
     try clear c9
     try clear c12
     try clear c15
     try clear c16
     try clear c19
     try clear c24
     try clear c25
     try clear c26
     try clear hcz10_0 hcz10_1
     try clear hcz13_0 hcz13_1
     try clear hcz17_0 hcz17_1
     try clear hcz20_0 hcz20_1
     try clear hcz26_0 hcz26_1
     try clear hfz10_0 hfz10_1
     try clear hfz13_0 hfz13_1
     try clear hfz17_0 hfz17_1
     try clear hfz20_0 hfz20_1
     try clear hfz26_0 hfz26_1
     try clear p2
     obtain ⟨x8_2, x459000_2, x459001_2, u459000, u459001, rfl, HA, HK2, HO_459000, HO_459001, BK449, BK450, BK458, HB⟩ := hrel
     cases gk with
     | zero => exact absurd HA.out (by simp [spec_DiskDo.l0])
     | succ k2 =>
      have H := HA.out
      clear HA
      simp only [spec_DiskDo.l0] at H
      have HC28 := Aside0.mk H
      clear H
      go_upto_region 5 with (fail)
      go_cut [34] (fun v34 wc => ∃ (kq : Nat) (x34_27 : Bool), v34 = .bool x34_27 ∧ Aside0 (spec_DiskDo.j2 kq l1 a2 x8_2 x34_27 x459000_2 x459001_2 = some (r1, r2)) ∧ Aside0 (kq ≤ k2) ∧ Aside0 (Kd.R (Kd.int .u8) 5 wc w.heap.size (fun k_ => (w.heap.size ≤ k_)) u459000 x459000_2) ∧ Aside0 (Kd.S k62 62 wc w.heap.size (fun k_ => (w.heap.size ≤ k_) ∧ some k_ ≠ (u459000 : Value).ownBlock ∧ k_ ≠ gb449 ∧ k_ ≠ gb450 ∧ k_ ≠ gb458) u459001 x459001_2) ∧ Aside0 (wc.heap[gb449]? = some (.cells #[(.slice A0_0 l0_0.length c0_0), (.slice A0_1 l0_1.length c0_1)] 29 (0, 0))) ∧ Aside0 (wc.heap[gb450]? = some (.cells #[(.slice none 0 0), (.slice none 0 0)] 29 (0, 0))) ∧ Aside0 (wc.heap[gb458]? = some (.cells #[u459000, u459001] 29 (0, 0))) ∧ Aside0 (Below w.heap.size w wc))
      case first =>
       have H := HC28.out
       clear HC28
       by_cases c29 : x8_2 < (l1.length : Int)
       ·
        rw [if_pos c29] at H
        have c29b0 : decide (x8_2 < (l1.length : Int)) = true := decide_eq_true c29
        clear c29
        (first | rw [c29b0] | (simp only [i64_w, i32_w]; rw [c29b0]) | skip)
        by_cases c30 : a2 < 0
        ·
         rw [if_pos c30] at H
         have c30b0 : decide (a2 < 0) = true := decide_eq_true c30
         clear c30
         have H' := Aside0.mk H
         clear H
         go_wp2
         go_meet
         case rel => exact ⟨_, (true), (by first | rfl | (simp; done) | (simp [*]; done)), H', ⟨by have := HJ3.out; have := HK2.out; first | omega | exact Nat.le_refl _⟩, ⟨Rgn.rq HO_459000.out⟩, ⟨by (with_reducible repeat (first | apply Kd.S_alloc | apply Kd.S_drewN | apply Kd.S_drew)); exact HO_459001.out⟩, ⟨Rgn.kb BK449.out⟩, ⟨Rgn.kb BK450.out⟩, ⟨Rgn.kb BK458.out⟩, ⟨Rgn.bq HB.out⟩⟩
        ·
         rw [if_neg c30] at H
         have c30b0 : decide (a2 < 0) = false := decide_eq_false c30
         clear c30
         have H' := Aside0.mk H
         clear H
         go_wp2
         go_meet
         case rel => exact ⟨_, (decide (x8_2 < a2)), (by first | rfl | (simp; done) | (simp [*]; done)), H', ⟨by have := HJ3.out; have := HK2.out; first | omega | exact Nat.le_refl _⟩, ⟨Rgn.rq HO_459000.out⟩, ⟨by (with_reducible repeat (first | apply Kd.S_alloc | apply Kd.S_drewN | apply Kd.S_drew)); exact HO_459001.out⟩, ⟨Rgn.kb BK449.out⟩, ⟨Rgn.kb BK450.out⟩, ⟨Rgn.kb BK458.out⟩, ⟨Rgn.bq HB.out⟩⟩
       ·
        rw [if_neg c29] at H
        have c29b0 : decide (x8_2 < (l1.length : Int)) = false := decide_eq_false c29
        clear c29
        (first | rw [c29b0] | (simp only [i64_w, i32_w]; rw [c29b0]) | skip)
        have H' := Aside0.mk H
        clear H
        go_wp2
        go_meet
        case rel => exact ⟨_, (false), (by first | rfl | (simp; done) | (simp [*]; done)), H', ⟨by have := HJ3.out; have := HK2.out; first | omega | exact Nat.le_refl _⟩, ⟨Rgn.rq HO_459000.out⟩, ⟨by (with_reducible repeat (first | apply Kd.S_alloc | apply Kd.S_drewN | apply Kd.S_drew)); exact HO_459001.out⟩, ⟨Rgn.kb BK449.out⟩, ⟨Rgn.kb BK450.out⟩, ⟨Rgn.kb BK458.out⟩, ⟨Rgn.bq HB.out⟩⟩
      case rest =>
       clear HC28
       try clear c1
       try clear c2
       try clear p2
       try clear c3
       try clear c4
       try clear c7
       try clear c8
       try clear c9
       try clear c12
       try clear c15
       try clear c16
       try clear c19
       try clear c24
       try clear c25
       try clear c26
       try clear c29
       try clear c29b0
       try clear c30
       try clear c30b0
       try clear hcz10_0 hcz10_1
       try clear hcz13_0 hcz13_1
       try clear hcz17_0 hcz17_1
       try clear hcz20_0 hcz20_1
       try clear hcz26_0 hcz26_1
       try clear hfz10_0 hfz10_1
       try clear hfz13_0 hfz13_1
       try clear hfz17_0 hfz17_1
       try clear hfz20_0 hfz20_1
       try clear hfz26_0 hfz26_1
       try clear p2
       obtain ⟨kq, x34_27, rfl, HA, HJ27, HO_459000, HO_459001, BK449, BK450, BK458, HB⟩ := hcut
       cases kq with
       | zero => exact absurd HA.out (by simp [spec_DiskDo.j2])
       | succ kj27 =>
        have H := HA.out
        clear HA
        simp only [spec_DiskDo.j2] at H
        by_cases c31 : x34_27 = true
        ·
         subst c31
         have H1 : (if 0 ≤ x8_2 then (if x8_2 < (l1.length : Int) then ((spec_l1Do.f kj27 x459000_2 x459001_2 ((rd_T93 l1 x8_2).f0) ((rd_T93 l1 x8_2).f1) ((rd_T93 l1 x8_2).f2)).bind fun bt460 => (if bt460.2.2 = true then (spec_DiskDo.l0 kj27 l1 a2 (wrap64 (x8_2 + 1)) bt460.1 bt460.2.1) else (some (([] : List Int), ([] : List (S62)))))) else (none)) else (none)) = some (r1, r2) := by rw [if_pos rfl] at H; exact H
         clear H
         have H := H1
         clear H1
         by_cases c32 : 0 ≤ x8_2
         ·
          rw [if_pos c32] at H
          have c32b0 : decide (0 ≤ x8_2) = true := decide_eq_true c32
          clear c32
          by_cases c33 : x8_2 < (l1.length : Int)
          ·
           rw [if_pos c33] at H
           have c33b0 : decide (x8_2 < (l1.length : Int)) = true := decide_eq_true c33
           clear c33
           replace H := Option.bind_eq_some_iff.mp H
           obtain ⟨⟨t460, t463, t466⟩, A340, H⟩ := H
           replace H : (if t466 = true then (spec_DiskDo.l0 kj27 l1 a2 (wrap64 (x8_2 + 1)) t460 t463) else (some (([] : List Int), ([] : List (S62))))) = some (r1, r2) := H
           have A34 := Aside0.mk A340
           clear A340
           by_cases c35 : t466 = true
           ·
            subst c35
            have H1 : (spec_DiskDo.l0 kj27 l1 a2 (wrap64 (x8_2 + 1)) t460 t463) = some (r1, r2) := by rw [if_pos rfl] at H; exact H
            clear H
            have H := H1
            clear H1
            have H' := Aside0.mk H
            clear H
            obtain ⟨Ao36, co36, eo36⟩ := Kd.R_slice HO_459000.out
            subst eo36
            obtain ⟨Ao37, co37, eo37⟩ := Kd.S_slice HO_459001.out
            subst eo37
            try go_wp2
            replace HO_459000 := Aside0.mk (Kd.R_drew HO_459000.out)
            replace HO_459001 := Aside0.mk (Kd.S_drew HO_459001.out)
            replace BK449 := Aside0.mk (blk_drew BK449.out)
            replace BK450 := Aside0.mk (blk_drew BK450.out)
            replace BK458 := Aside0.mk (blk_drew BK458.out)
            replace HB := Aside0.mk (below_drew1 HB.out)
            have p459 : 0 ≤ (x8_2 : Int) := of_decide_eq_true (by first | (with_reducible assumption) | assumption)
            have q459 : x8_2 < (l1.length : Int) := of_decide_eq_true (by first | (with_reducible assumption) | assumption)
            obtain ⟨ad459, A459_2, c459_2, e459, hx459_0, hx459_1, hx459_2, hl459_2, hi459_2⟩ := at_T93 HR1.out x8_2 p459 q459
            have hw459_2 := hx459_2
            have hw459_1 := hx459_1
            have hw459_0 := hx459_0
            cases e459
            replace hx459_0 := Rgn.hx HB.out hx459_0
            replace hx459_1 := Rgn.hx HB.out hx459_1
            replace hx459_2 := Rgn.hx HB.out hx459_2
            have HR459_2 := Aside0.mk hi459_2
            have HC459_2 := Aside0.mk hl459_2
            clear hi459_2 hl459_2
            replace p459 := eq_true p459
            replace q459 := eq_true q459
            refine start_ (n := 12) (S := fun w' => w'.cell? ⟨gb458, 0, none⟩ = some (.slice Ao36 x459000_2.length co36) ∧ w'.cell? ⟨gb458, 1, none⟩ = some (.slice Ao37 x459001_2.length co37) ∧ w'.cell? (ad459.add ((x8_2).toNat * 3)) = some (.int .i64 ((rd_T93 l1 x8_2).f0)) ∧ w'.cell? ⟨(ad459.add ((x8_2).toNat * 3)).block, (ad459.add ((x8_2).toNat * 3)).off + 1, none⟩ = some (.int .i64 ((rd_T93 l1 x8_2).f1)) ∧ w'.cell? ⟨(ad459.add ((x8_2).toNat * 3)).block, (ad459.add ((x8_2).toNat * 3)).off + 2, none⟩ = some (.slice A459_2 ((rd_T93 l1 x8_2).f2).length c459_2)) (ds := []) #[false, false, false, false, false, false, false, false, false, false, false, false] (by kernel_rfl) rfl rfl ⟨(blk_cell BK458.out 0).trans rfl, (blk_cell BK458.out 1).trans rfl, ((HB.out.cell (World.block_lt_of_cell? w _ hw459_0)).trans hw459_0), ((HB.out.cell (World.block_lt_of_cell? w _ hw459_1)).trans hw459_1), ((HB.out.cell (World.block_lt_of_cell? w _ hw459_2)).trans hw459_2)⟩ (fun hHeld => ?_); refine with_tabW spec_DiskDo.tab7 spec_DiskDo.bits7 (fun HT_ HW_ => ?_)
            generalize wc.drew = w38 at HO_459000 HO_459001 BK449 BK450 BK458 HB HR459_2 hx459_0 hx459_1 hx459_2 hHeld ⊢
            refine Rgn.pu HT_.out 1 39 ?_
            refine Rgn.pu HT_.out 2 40 ?_
            refine Rgn.pu HT_.out 3 41 ?_
            refine Rgn.tk HT_.out HW_.out 0 38 hHeld ?_
            refine Rgn.tk HT_.out HW_.out 4 42 hHeld ?_
            refine join_ (σ := Value × Value × Nat) 2 #[true, true, true, true, true, true, true, true, true, true, false, false] (fun s_ => [(43, .tuple #[.agg #[s_.1, s_.2.1], .bool true]), (9, .pointer (some ⟨s_.2.2, 0, none⟩)), (37, .tuple #[.agg #[s_.1, s_.2.1], .bool true]), (44, .agg #[s_.1, s_.2.1]), (45, .bool true)]) (fun s_ w' => (w'.cell? ⟨gb458, 0, none⟩ = some (.slice Ao36 x459000_2.length co36) ∧ w'.cell? ⟨gb458, 1, none⟩ = some (.slice Ao37 x459001_2.length co37) ∧ w'.cell? (ad459.add ((x8_2).toNat * 3)) = some (.int .i64 ((rd_T93 l1 x8_2).f0)) ∧ w'.cell? ⟨(ad459.add ((x8_2).toNat * 3)).block, (ad459.add ((x8_2).toNat * 3)).off + 1, none⟩ = some (.int .i64 ((rd_T93 l1 x8_2).f1)) ∧ w'.cell? ⟨(ad459.add ((x8_2).toNat * 3)).block, (ad459.add ((x8_2).toNat * 3)).off + 2, none⟩ = some (.slice A459_2 ((rd_T93 l1 x8_2).f2).length c459_2)) ∧ (Kd.R (Kd.int .u8) 5 w' w.heap.size (fun k_ => (w.heap.size ≤ k_)) s_.1 t460) ∧ (Kd.S k62 62 w' w.heap.size (fun k_ => (w.heap.size ≤ k_) ∧ some k_ ≠ (s_.1 : Value).ownBlock ∧ k_ ≠ gb449 ∧ k_ ≠ gb450 ∧ k_ ≠ gb458 ∧ k_ ≠ s_.2.2) s_.2.1 t463) ∧ True ∧ (w'.heap[gb449]? = some (.cells #[.slice A0_0 l0_0.length c0_0, .slice A0_1 l0_1.length c0_1] 29 (0, 0))) ∧ (w'.heap[gb450]? = some (.cells #[.slice none 0 0, .slice none 0 0] 29 (0, 0))) ∧ (w'.heap[gb458]? = some (.cells #[.slice Ao36 x459000_2.length co36, .slice Ao37 x459001_2.length co37] 29 (0, 0))) ∧ (w'.heap[s_.2.2]? = some (.cells #[.slice none 0 0, .slice none 0 0] 29 (0, 0))) ∧ (w.heap.size ≤ s_.2.2) ∧ (w.heap.size ≤ s_.2.2) ∧ (gb449 ≠ s_.2.2) ∧ (s_.2.2 ≠ gb449) ∧ (gb450 ≠ s_.2.2) ∧ (s_.2.2 ≠ gb450) ∧ (gb458 ≠ s_.2.2) ∧ (s_.2.2 ≠ gb458) ∧ (Below w.heap.size w w')) ?_ ?_
            rotate_left
            ·
             intro hCont
             refine two_ (i := 5) (j := 9) (Ni := some 43) (Nj := some 9) #[true, true, true, true, true, true, false, false, false, false, false, false] #[true, true, true, true, true, false, false, false, false, true, false, false] rfl rfl rfl rfl (two_of HT_.out (by kernel_rfl)) (by decide) (by decide) (fun K hK => ?_) (fun K hK => ?_)
             ·
              skip
              refine Rgn.gs Try.func86 #[.agg #[.slice Ao36 x459000_2.length co36, .slice Ao37 x459001_2.length co37], .agg #[.int .i64 ((rd_T93 l1 x8_2).f0), .int .i64 ((rd_T93 l1 x8_2).f1), .slice A459_2 ((rd_T93 l1 x8_2).f2).length c459_2]] ?_
              with_reducible refine (spec_l1Do.calls kj27 (fun k_ => some k_ = (.slice Ao36 x459000_2.length co36 : Value).ownBlock) (.slice Ao36 x459000_2.length co36) x459000_2 (fun k_ => ((w.heap.size ≤ k_) ∧ (some k_ ≠ (.slice Ao36 x459000_2.length co36 : Value).ownBlock ∧ (k_ ≠ gb449 ∧ (k_ ≠ gb450 ∧ k_ ≠ gb458))))) _ _ x459001_2 ((rd_T93 l1 x8_2).f0) ((rd_T93 l1 x8_2).f1) _ _ ((rd_T93 l1 x8_2).f2) t460 t463 true w _ ?side1 ?side2 ?side3 ?side4 ?side5 A34.out).mono ?_
              (case side1 => exact Rgn.bq HB.out)
              (case side2 => exact Kd.R_tight rfl HO_459000.out)
              (case side3 => exact Kd.S_mono (HO_459001.out) (fun k_ hk_ => ⟨hk_, hk_.2.1⟩))
              (case side4 => exact Kd.C_kept_came (Kd.heap_int .u8) HR459_2.out (Rgn.bq HB.out) (fun k_ hs_ => Or.elim hs_ (fun e_ => Kd.R_base HO_459000.out k_ e_.symm) (fun h_ => h_.1)))
              (case side5 => exact HC459_2.out)
              rintro e w39 ⟨v461, v464, rfl, ho0, ho1, hb, hkp⟩
              refine ⟨_, rfl, ?_⟩
              replace HO_459001 := Aside0.mk trivial
              have HO462 := Aside0.mk (Kd.R_mono (ok' := fun k_ => (w.heap.size ≤ k_)) ho0 (fun k_ hk_ => Or.elim hk_ (fun hs_ => (HO_459000.out.1 k_ (hs_).symm)) (fun hn_ => (Nat.le_trans (below_size (Rgn.bq HB.out)) hn_))))
              have HO465 := Aside0.mk (Kd.S_mono (ok' := fun k_ => (w.heap.size ≤ k_) ∧ some k_ ≠ (v461 : Value).ownBlock ∧ k_ ≠ gb449 ∧ k_ ≠ gb450 ∧ k_ ≠ gb458) ho1 (fun k_ hk_ => ⟨Or.elim hk_.1 (fun hs_ => Or.elim hs_ (fun hs_ => (HO_459000.out.1 k_ (hs_).symm)) (fun hs_ => hs_.1)) (fun hn_ => (Nat.le_trans (below_size (Rgn.bq HB.out)) hn_)), hk_.2, Or.elim hk_.1 (fun hs_ => Or.elim hs_ (fun hs_ => fun e_ => (Kd.R_ne HO_459000.out BK449.out (by decide)) (by rw [← e_]; exact hs_)) (fun hs_ => hs_.2.2.1)) (fun hn_ => (Kd.freshB (g := gb449) (o := .cells #[.slice A0_0 l0_0.length c0_0, .slice A0_1 l0_1.length c0_1] 29 (0, 0)) (Rgn.kb BK449.out) k_ hn_)), Or.elim hk_.1 (fun hs_ => Or.elim hs_ (fun hs_ => fun e_ => (Kd.R_ne HO_459000.out BK450.out (by decide)) (by rw [← e_]; exact hs_)) (fun hs_ => hs_.2.2.2.1)) (fun hn_ => (Kd.freshB (g := gb450) (o := .cells #[.slice none 0 0, .slice none 0 0] 29 (0, 0)) (Rgn.kb BK450.out) k_ hn_)), Or.elim hk_.1 (fun hs_ => Or.elim hs_ (fun hs_ => fun e_ => (Kd.R_ne HO_459000.out BK458.out (by decide)) (by rw [← e_]; exact hs_)) (fun hs_ => hs_.2.2.2.2)) (fun hn_ => (Kd.freshB (g := gb458) (o := .cells #[.slice Ao36 x459000_2.length co36, .slice Ao37 x459001_2.length co37] 29 (0, 0)) (Rgn.kb BK458.out) k_ hn_))⟩))
              replace BK449 := Aside0.mk (blk_kept (Rgn.kb BK449.out) hkp (fun hs_ => Or.elim hs_ (fun e_ => (Kd.R_ne HO_459000.out BK449.out (by decide)) e_) (fun h_ => h_.2.2.1 rfl)))
              replace BK450 := Aside0.mk (blk_kept (Rgn.kb BK450.out) hkp (fun hs_ => Or.elim hs_ (fun e_ => (Kd.R_ne HO_459000.out BK450.out (by decide)) e_) (fun h_ => h_.2.2.2.1 rfl)))
              replace BK458 := Aside0.mk (blk_kept (Rgn.kb BK458.out) hkp (fun hs_ => Or.elim hs_ (fun e_ => (Kd.R_ne HO_459000.out BK458.out (by decide)) e_) (fun h_ => h_.2.2.2.2 rfl)))
              replace HB := Aside0.mk (hb)
              clear HO_459000
              (try clear hb)
              (try clear hkp)
              (try clear ho0)
              (try clear ho1)
              refine hK.out _ _ ⟨(blk_cell BK458.out 0).trans rfl, (blk_cell BK458.out 1).trans rfl, ((HB.out.cell (World.block_lt_of_cell? w _ hw459_0)).trans hw459_0), ((HB.out.cell (World.block_lt_of_cell? w _ hw459_1)).trans hw459_1), ((HB.out.cell (World.block_lt_of_cell? w _ hw459_2)).trans hw459_2)⟩ (fun hHeld => ?_)
              clear hK K
              refine norm_ (a' := ?_) ?_ ?_
              rotate_left
              ·
               show Act.put _ (some 43) _ = _
               simp only [Act.put, List.setIfInBounds_toArray, List.set_cons_zero, List.set_cons_succ, i64_w, i32_w]
               rfl
              refine Rgn.pu HT_.out 6 37 ?_
              refine Rgn.pu HT_.out 7 44 ?_
              refine Rgn.pu HT_.out 8 45 ?_
              refine one_ (i := 9) (N := some 9) #[true, true, true, true, true, true, true, true, true, true, false, false] rfl rfl (one_of HT_.out (by kernel_rfl)) (by decide) (fun K hK => ?_)
              refine box_step ?hg (N := 9) ?hd (cs := #[.slice none 0 0, .slice none 0 0]) (t := 29) ?hr ?_; (case hd => rfl); (case hg => rfl); (case hr => first | (go_simp; done) | (go_simp; rfl))
              intro gb467 hg w40 hbox hb
              replace HO_459001 := Aside0.mk trivial
              replace HO462 := Aside0.mk (Kd.R_below (Rgn.rq HO462.out) hb)
              replace HO465 := Aside0.mk (Kd.S_below (Kd.S_elderB (Rgn.sq HO465.out) gb467 (Nat.le_of_eq hg.symm)) hb)
              have BK467 := Aside0.mk (hbox)
              have GW467 := Aside0.mk (Rgn.ge hg HB.out)
              have GE467 := Aside0.mk (Rgn.ge hg HB.out)
              replace HB := Aside0.mk (below_step (Rgn.bq HB.out) hb)
              have NB449_467 := Aside0.mk (Rgn.nl hg BK449.out)
              have NB467_449 := Aside0.mk (Rgn.ng hg BK449.out)
              replace BK449 := Aside0.mk (Rgn.bb BK449.out hb)
              have NB450_467 := Aside0.mk (Rgn.nl hg BK450.out)
              have NB467_450 := Aside0.mk (Rgn.ng hg BK450.out)
              replace BK450 := Aside0.mk (Rgn.bb BK450.out hb)
              have NB458_467 := Aside0.mk (Rgn.nl hg BK458.out)
              have NB467_458 := Aside0.mk (Rgn.ng hg BK458.out)
              replace BK458 := Aside0.mk (Rgn.bb BK458.out hb)
              clear hb hbox hg
              refine hK.out _ _ ⟨(blk_cell BK458.out 0).trans rfl, (blk_cell BK458.out 1).trans rfl, ((HB.out.cell (World.block_lt_of_cell? w _ hw459_0)).trans hw459_0), ((HB.out.cell (World.block_lt_of_cell? w _ hw459_1)).trans hw459_1), ((HB.out.cell (World.block_lt_of_cell? w _ hw459_2)).trans hw459_2)⟩ (fun hHeld => ?_)
              clear hK K
              refine norm_ (a' := ?_) ?_ ?_
              rotate_left
              ·
               show Act.put _ (some 9) _ = _
               simp only [Act.put, List.setIfInBounds_toArray, List.set_cons_zero, List.set_cons_succ, i64_w, i32_w]
               rfl
              exact norm_ (by simp only [putAll, Act.put, List.setIfInBounds_toArray, List.set_cons_zero, List.set_cons_succ]) (hCont (v461, v464, gb467) _ ⟨hHeld, (Rgn.rq HO462.out), (Rgn.sq (Kd.S_mono HO465.out (fun _ hk => ⟨hk.1.1, ⟨hk.1.2.1, ⟨hk.1.2.2.1, ⟨hk.1.2.2.2.1, ⟨hk.1.2.2.2.2, hk.2⟩⟩⟩⟩⟩))), trivial, (Rgn.kb BK449.out), (Rgn.kb BK450.out), (Rgn.kb BK458.out), (Rgn.kb BK467.out), GW467.out, GE467.out, NB449_467.out, NB467_449.out, NB450_467.out, NB467_450.out, NB458_467.out, NB467_458.out, (Rgn.bq HB.out)⟩)
             ·
              skip
              refine box_step ?hg (N := 9) ?hd (cs := #[.slice none 0 0, .slice none 0 0]) (t := 29) ?hr ?_; (case hd => rfl); (case hg => rfl); (case hr => first | (go_simp; done) | (go_simp; rfl))
              intro gb467 hg w39 hbox hb
              replace HO_459000 := Aside0.mk (Kd.R_below (Rgn.rq HO_459000.out) hb)
              replace HO_459001 := Aside0.mk (Kd.S_below (Kd.S_elderB (Rgn.sq HO_459001.out) gb467 (Nat.le_of_eq hg.symm)) hb)
              have BK467 := Aside0.mk (hbox)
              have GW467 := Aside0.mk (Rgn.ge hg HB.out)
              have GE467 := Aside0.mk (Rgn.ge hg HB.out)
              replace HB := Aside0.mk (below_step (Rgn.bq HB.out) hb)
              have NB449_467 := Aside0.mk (Rgn.nl hg BK449.out)
              have NB467_449 := Aside0.mk (Rgn.ng hg BK449.out)
              replace BK449 := Aside0.mk (Rgn.bb BK449.out hb)
              have NB450_467 := Aside0.mk (Rgn.nl hg BK450.out)
              have NB467_450 := Aside0.mk (Rgn.ng hg BK450.out)
              replace BK450 := Aside0.mk (Rgn.bb BK450.out hb)
              have NB458_467 := Aside0.mk (Rgn.nl hg BK458.out)
              have NB467_458 := Aside0.mk (Rgn.ng hg BK458.out)
              replace BK458 := Aside0.mk (Rgn.bb BK458.out hb)
              clear hb hbox hg
              refine hK.out _ _ ⟨(blk_cell BK458.out 0).trans rfl, (blk_cell BK458.out 1).trans rfl, ((HB.out.cell (World.block_lt_of_cell? w _ hw459_0)).trans hw459_0), ((HB.out.cell (World.block_lt_of_cell? w _ hw459_1)).trans hw459_1), ((HB.out.cell (World.block_lt_of_cell? w _ hw459_2)).trans hw459_2)⟩ (fun hHeld => ?_)
              clear hK K
              refine norm_ (a' := ?_) ?_ ?_
              rotate_left
              ·
               show Act.put _ (some 9) _ = _
               simp only [Act.put, List.setIfInBounds_toArray, List.set_cons_zero, List.set_cons_succ, i64_w, i32_w]
               rfl
              refine one_ (i := 5) (N := some 43) #[true, true, true, true, true, true, false, false, false, true, false, false] rfl rfl (one_of HT_.out (by kernel_rfl)) (by decide) (fun K hK => ?_)
              refine Rgn.gs Try.func86 #[.agg #[.slice Ao36 x459000_2.length co36, .slice Ao37 x459001_2.length co37], .agg #[.int .i64 ((rd_T93 l1 x8_2).f0), .int .i64 ((rd_T93 l1 x8_2).f1), .slice A459_2 ((rd_T93 l1 x8_2).f2).length c459_2]] ?_
              with_reducible refine (spec_l1Do.calls kj27 (fun k_ => some k_ = (.slice Ao36 x459000_2.length co36 : Value).ownBlock) (.slice Ao36 x459000_2.length co36) x459000_2 (fun k_ => (((w.heap.size ≤ k_) ∧ (some k_ ≠ (.slice Ao36 x459000_2.length co36 : Value).ownBlock ∧ (k_ ≠ gb449 ∧ (k_ ≠ gb450 ∧ k_ ≠ gb458)))) ∧ k_ ≠ gb467)) _ _ x459001_2 ((rd_T93 l1 x8_2).f0) ((rd_T93 l1 x8_2).f1) _ _ ((rd_T93 l1 x8_2).f2) t460 t463 true w _ ?side1 ?side2 ?side3 ?side4 ?side5 A34.out).mono ?_
              (case side1 => exact Rgn.bq HB.out)
              (case side2 => exact Kd.R_tight rfl HO_459000.out)
              (case side3 => exact Kd.S_mono (HO_459001.out) (fun k_ hk_ => ⟨hk_, hk_.1.2.1⟩))
              (case side4 => exact Kd.C_kept_came (Kd.heap_int .u8) HR459_2.out (Rgn.bq HB.out) (fun k_ hs_ => Or.elim hs_ (fun e_ => Kd.R_base HO_459000.out k_ e_.symm) (fun h_ => h_.1.1)))
              (case side5 => exact HC459_2.out)
              rintro e w40 ⟨v461, v464, rfl, ho0, ho1, hb, hkp⟩
              refine ⟨_, rfl, ?_⟩
              replace HO_459001 := Aside0.mk trivial
              have HO462 := Aside0.mk (Kd.R_mono (ok' := fun k_ => (w.heap.size ≤ k_)) ho0 (fun k_ hk_ => Or.elim hk_ (fun hs_ => (HO_459000.out.1 k_ (hs_).symm)) (fun hn_ => (Nat.le_trans (below_size (Rgn.bq HB.out)) hn_))))
              have HO465 := Aside0.mk (Kd.S_mono (ok' := fun k_ => (w.heap.size ≤ k_) ∧ some k_ ≠ (v461 : Value).ownBlock ∧ k_ ≠ gb449 ∧ k_ ≠ gb450 ∧ k_ ≠ gb458 ∧ k_ ≠ gb467) ho1 (fun k_ hk_ => ⟨Or.elim hk_.1 (fun hs_ => Or.elim hs_ (fun hs_ => (HO_459000.out.1 k_ (hs_).symm)) (fun hs_ => hs_.1.1)) (fun hn_ => (Nat.le_trans (below_size (Rgn.bq HB.out)) hn_)), hk_.2, Or.elim hk_.1 (fun hs_ => Or.elim hs_ (fun hs_ => fun e_ => (Kd.R_ne HO_459000.out BK449.out (by decide)) (by rw [← e_]; exact hs_)) (fun hs_ => hs_.1.2.2.1)) (fun hn_ => (Kd.freshB (g := gb449) (o := .cells #[.slice A0_0 l0_0.length c0_0, .slice A0_1 l0_1.length c0_1] 29 (0, 0)) (Rgn.kb BK449.out) k_ hn_)), Or.elim hk_.1 (fun hs_ => Or.elim hs_ (fun hs_ => fun e_ => (Kd.R_ne HO_459000.out BK450.out (by decide)) (by rw [← e_]; exact hs_)) (fun hs_ => hs_.1.2.2.2.1)) (fun hn_ => (Kd.freshB (g := gb450) (o := .cells #[.slice none 0 0, .slice none 0 0] 29 (0, 0)) (Rgn.kb BK450.out) k_ hn_)), Or.elim hk_.1 (fun hs_ => Or.elim hs_ (fun hs_ => fun e_ => (Kd.R_ne HO_459000.out BK458.out (by decide)) (by rw [← e_]; exact hs_)) (fun hs_ => hs_.1.2.2.2.2)) (fun hn_ => (Kd.freshB (g := gb458) (o := .cells #[.slice Ao36 x459000_2.length co36, .slice Ao37 x459001_2.length co37] 29 (0, 0)) (Rgn.kb BK458.out) k_ hn_)), Or.elim hk_.1 (fun hs_ => Or.elim hs_ (fun hs_ => fun e_ => (Kd.R_ne HO_459000.out BK467.out (by decide)) (by rw [← e_]; exact hs_)) (fun hs_ => hs_.2)) (fun hn_ => (Kd.freshB (g := gb467) (o := .cells #[.slice none 0 0, .slice none 0 0] 29 (0, 0)) (Rgn.kb BK467.out) k_ hn_))⟩))
              replace BK449 := Aside0.mk (blk_kept (Rgn.kb BK449.out) hkp (fun hs_ => Or.elim hs_ (fun e_ => (Kd.R_ne HO_459000.out BK449.out (by decide)) e_) (fun h_ => h_.1.2.2.1 rfl)))
              replace BK450 := Aside0.mk (blk_kept (Rgn.kb BK450.out) hkp (fun hs_ => Or.elim hs_ (fun e_ => (Kd.R_ne HO_459000.out BK450.out (by decide)) e_) (fun h_ => h_.1.2.2.2.1 rfl)))
              replace BK458 := Aside0.mk (blk_kept (Rgn.kb BK458.out) hkp (fun hs_ => Or.elim hs_ (fun e_ => (Kd.R_ne HO_459000.out BK458.out (by decide)) e_) (fun h_ => h_.1.2.2.2.2 rfl)))
              replace BK467 := Aside0.mk (blk_kept (Rgn.kb BK467.out) hkp (fun hs_ => Or.elim hs_ (fun e_ => (Kd.R_ne HO_459000.out BK467.out (by decide)) e_) (fun h_ => h_.2 rfl)))
              replace HB := Aside0.mk (hb)
              clear HO_459000
              (try clear hb)
              (try clear hkp)
              (try clear ho0)
              (try clear ho1)
              refine hK.out _ _ ⟨(blk_cell BK458.out 0).trans rfl, (blk_cell BK458.out 1).trans rfl, ((HB.out.cell (World.block_lt_of_cell? w _ hw459_0)).trans hw459_0), ((HB.out.cell (World.block_lt_of_cell? w _ hw459_1)).trans hw459_1), ((HB.out.cell (World.block_lt_of_cell? w _ hw459_2)).trans hw459_2)⟩ (fun hHeld => ?_)
              clear hK K
              refine norm_ (a' := ?_) ?_ ?_
              rotate_left
              ·
               show Act.put _ (some 43) _ = _
               simp only [Act.put, List.setIfInBounds_toArray, List.set_cons_zero, List.set_cons_succ, i64_w, i32_w]
               rfl
              refine Rgn.pu HT_.out 6 37 ?_
              refine Rgn.pu HT_.out 7 44 ?_
              refine Rgn.pu HT_.out 8 45 ?_
              exact norm_ (by simp only [putAll, Act.put, List.setIfInBounds_toArray, List.set_cons_zero, List.set_cons_succ]) (hCont (v461, v464, gb467) _ ⟨hHeld, (Rgn.rq HO462.out), (Rgn.sq HO465.out), trivial, (Rgn.kb BK449.out), (Rgn.kb BK450.out), (Rgn.kb BK458.out), (Rgn.kb BK467.out), GW467.out, GE467.out, NB449_467.out, NB467_449.out, NB450_467.out, NB467_450.out, NB458_467.out, NB467_458.out, (Rgn.bq HB.out)⟩)
            rintro ⟨v461, v464, gb467⟩ w41 ⟨hS_, h0_, h1_, h2_, h3_, h4_, h5_, h6_, h7_, h8_, h9_, h10_, h11_, h12_, h13_, h14_, h15_⟩
            have HO462 : Aside0 (Kd.R (Kd.int .u8) 5 w41 w.heap.size (fun k_ => (w.heap.size ≤ k_)) v461 t460) := ⟨h0_⟩
            have HO465 : Aside0 (Kd.S k62 62 w41 w.heap.size (fun k_ => (w.heap.size ≤ k_) ∧ some k_ ≠ (v461 : Value).ownBlock ∧ k_ ≠ gb449 ∧ k_ ≠ gb450 ∧ k_ ≠ gb458 ∧ k_ ≠ gb467) v464 t463) := ⟨h1_⟩
            replace HO_459001 : Aside0 True := ⟨h2_⟩
            replace BK449 : Aside0 (w41.heap[gb449]? = some (.cells #[.slice A0_0 l0_0.length c0_0, .slice A0_1 l0_1.length c0_1] 29 (0, 0))) := ⟨h3_⟩
            replace BK450 : Aside0 (w41.heap[gb450]? = some (.cells #[.slice none 0 0, .slice none 0 0] 29 (0, 0))) := ⟨h4_⟩
            replace BK458 : Aside0 (w41.heap[gb458]? = some (.cells #[.slice Ao36 x459000_2.length co36, .slice Ao37 x459001_2.length co37] 29 (0, 0))) := ⟨h5_⟩
            have BK467 : Aside0 (w41.heap[gb467]? = some (.cells #[.slice none 0 0, .slice none 0 0] 29 (0, 0))) := ⟨h6_⟩
            have GW467 : Aside0 (w.heap.size ≤ gb467) := ⟨h7_⟩
            have GE467 : Aside0 (w.heap.size ≤ gb467) := ⟨h8_⟩
            have NB449_467 : Aside0 (gb449 ≠ gb467) := ⟨h9_⟩
            have NB467_449 : Aside0 (gb467 ≠ gb449) := ⟨h10_⟩
            have NB450_467 : Aside0 (gb450 ≠ gb467) := ⟨h11_⟩
            have NB467_450 : Aside0 (gb467 ≠ gb450) := ⟨h12_⟩
            have NB458_467 : Aside0 (gb458 ≠ gb467) := ⟨h13_⟩
            have NB467_458 : Aside0 (gb467 ≠ gb458) := ⟨h14_⟩
            replace HB : Aside0 (Below w.heap.size w w41) := ⟨h15_⟩
            clear HO_459000 h0_ h10_ h11_ h12_ h13_ h14_ h15_ h1_ h2_ h3_ h4_ h5_ h6_ h7_ h8_ h9_
            have hHeld : w41.cell? ⟨gb458, 0, none⟩ = some (.slice Ao36 x459000_2.length co36) ∧ w41.cell? ⟨gb458, 1, none⟩ = some (.slice Ao37 x459001_2.length co37) ∧ w41.cell? (ad459.add ((x8_2).toNat * 3)) = some (.int .i64 ((rd_T93 l1 x8_2).f0)) ∧ w41.cell? ⟨(ad459.add ((x8_2).toNat * 3)).block, (ad459.add ((x8_2).toNat * 3)).off + 1, none⟩ = some (.int .i64 ((rd_T93 l1 x8_2).f1)) ∧ w41.cell? ⟨(ad459.add ((x8_2).toNat * 3)).block, (ad459.add ((x8_2).toNat * 3)).off + 2, none⟩ = some (.slice A459_2 ((rd_T93 l1 x8_2).f2).length c459_2) := hS_
            obtain ⟨Ao42, co42, eo42⟩ := Kd.R_slice HO462.out
            (first | subst eo42 | (injection eo42 with f1_ f2_ f3_; have f4_ := f1_.symm; have f5_ := f3_.symm; clear f1_ f2_ f3_; subst f4_; subst f5_))
            obtain ⟨Ao44, co44, eo44⟩ := Kd.S_slice HO465.out
            (first | subst eo44 | (injection eo44 with f1_ f2_ f3_; have f4_ := f1_.symm; have f5_ := f3_.symm; clear f1_ f2_ f3_; subst f4_; subst f5_))
            refine norm_ (a' := ?_) ?_ ?_
            rotate_left
            ·
             simp only [putAll, Act.put, List.setIfInBounds_toArray, List.set_cons_zero, List.set_cons_succ]
             rfl
            refine one_ (i := 10) (N := none) #[true, true, true, true, true, true, true, true, true, true, true, false] rfl rfl (one_of HT_.out (by kernel_rfl)) (by decide) (fun K hK => ?_)
            have hs43 : w41.cell? ⟨gb467, 0, none⟩ = some (.slice none 0 0) := (blk_cell BK467.out 0).trans rfl
            have hfs43 := blk_frozen BK467.out 0
            have hns43_0 := NB449_467.out
            have hns43_1 := NB450_467.out
            have hns43_2 := NB458_467.out
            have hms43_0 := NB467_449.out
            have hms43_1 := NB467_450.out
            have hms43_2 := NB467_458.out
            have hs45 : w41.cell? ⟨gb467, 1, none⟩ = some (.slice none 0 0) := (blk_cell BK467.out 1).trans rfl
            have hfs45 := blk_frozen BK467.out 1
            have hns45_0 := NB449_467.out
            have hns45_1 := NB450_467.out
            have hns45_2 := NB458_467.out
            have hms45_0 := NB467_449.out
            have hms45_1 := NB467_450.out
            have hms45_2 := NB467_458.out
            refine skip_ (w1 := ?_) (by rfl) rfl ?_ ?_
            rotate_left
            ·
             go_simp
             rfl
            refine hK.out _ _ ⟨((cell_far (p := ⟨gb467, _, none⟩) NB458_467.out _).trans (((cell_far (p := ⟨gb467, _, none⟩) NB458_467.out _).trans (hHeld.1)))), ((cell_far (p := ⟨gb467, _, none⟩) NB458_467.out _).trans (((cell_far (p := ⟨gb467, _, none⟩) NB458_467.out _).trans (hHeld.2.1)))), ((cell_far (p := ⟨gb467, _, none⟩) (by first | exact Nat.ne_of_lt (Nat.lt_of_lt_of_le (by have := World.block_lt_of_cell? _ _ hw459_0; first | rwa [add_block] at this | exact this) GW467.out) | (rw [add_block]; exact Nat.ne_of_lt (Nat.lt_of_lt_of_le (by have := World.block_lt_of_cell? _ _ hw459_0; first | rwa [add_block] at this | exact this) GW467.out)) | (show (Addr.add _ _).block ≠ _; rw [add_block]; exact Nat.ne_of_lt (Nat.lt_of_lt_of_le (by have := World.block_lt_of_cell? _ _ hw459_0; first | rwa [add_block] at this | exact this) GW467.out)) | (dsimp only; exact Nat.ne_of_lt (Nat.lt_of_lt_of_le (by have := World.block_lt_of_cell? _ _ hw459_0; first | rwa [add_block] at this | exact this) GW467.out))) _).trans (((cell_far (p := ⟨gb467, _, none⟩) (by first | exact Nat.ne_of_lt (Nat.lt_of_lt_of_le (by have := World.block_lt_of_cell? _ _ hw459_0; first | rwa [add_block] at this | exact this) GW467.out) | (rw [add_block]; exact Nat.ne_of_lt (Nat.lt_of_lt_of_le (by have := World.block_lt_of_cell? _ _ hw459_0; first | rwa [add_block] at this | exact this) GW467.out)) | (show (Addr.add _ _).block ≠ _; rw [add_block]; exact Nat.ne_of_lt (Nat.lt_of_lt_of_le (by have := World.block_lt_of_cell? _ _ hw459_0; first | rwa [add_block] at this | exact this) GW467.out)) | (dsimp only; exact Nat.ne_of_lt (Nat.lt_of_lt_of_le (by have := World.block_lt_of_cell? _ _ hw459_0; first | rwa [add_block] at this | exact this) GW467.out))) _).trans (hHeld.2.2.1)))), ((cell_far (p := ⟨gb467, _, none⟩) (by first | exact Nat.ne_of_lt (Nat.lt_of_lt_of_le (by have := World.block_lt_of_cell? _ _ hw459_1; first | rwa [add_block] at this | exact this) GW467.out) | (rw [add_block]; exact Nat.ne_of_lt (Nat.lt_of_lt_of_le (by have := World.block_lt_of_cell? _ _ hw459_1; first | rwa [add_block] at this | exact this) GW467.out)) | (show (Addr.add _ _).block ≠ _; rw [add_block]; exact Nat.ne_of_lt (Nat.lt_of_lt_of_le (by have := World.block_lt_of_cell? _ _ hw459_1; first | rwa [add_block] at this | exact this) GW467.out)) | (dsimp only; exact Nat.ne_of_lt (Nat.lt_of_lt_of_le (by have := World.block_lt_of_cell? _ _ hw459_1; first | rwa [add_block] at this | exact this) GW467.out))) _).trans (((cell_far (p := ⟨gb467, _, none⟩) (by first | exact Nat.ne_of_lt (Nat.lt_of_lt_of_le (by have := World.block_lt_of_cell? _ _ hw459_1; first | rwa [add_block] at this | exact this) GW467.out) | (rw [add_block]; exact Nat.ne_of_lt (Nat.lt_of_lt_of_le (by have := World.block_lt_of_cell? _ _ hw459_1; first | rwa [add_block] at this | exact this) GW467.out)) | (show (Addr.add _ _).block ≠ _; rw [add_block]; exact Nat.ne_of_lt (Nat.lt_of_lt_of_le (by have := World.block_lt_of_cell? _ _ hw459_1; first | rwa [add_block] at this | exact this) GW467.out)) | (dsimp only; exact Nat.ne_of_lt (Nat.lt_of_lt_of_le (by have := World.block_lt_of_cell? _ _ hw459_1; first | rwa [add_block] at this | exact this) GW467.out))) _).trans (hHeld.2.2.2.1)))), ((cell_far (p := ⟨gb467, _, none⟩) (by first | exact Nat.ne_of_lt (Nat.lt_of_lt_of_le (by have := World.block_lt_of_cell? _ _ hw459_2; first | rwa [add_block] at this | exact this) GW467.out) | (rw [add_block]; exact Nat.ne_of_lt (Nat.lt_of_lt_of_le (by have := World.block_lt_of_cell? _ _ hw459_2; first | rwa [add_block] at this | exact this) GW467.out)) | (show (Addr.add _ _).block ≠ _; rw [add_block]; exact Nat.ne_of_lt (Nat.lt_of_lt_of_le (by have := World.block_lt_of_cell? _ _ hw459_2; first | rwa [add_block] at this | exact this) GW467.out)) | (dsimp only; exact Nat.ne_of_lt (Nat.lt_of_lt_of_le (by have := World.block_lt_of_cell? _ _ hw459_2; first | rwa [add_block] at this | exact this) GW467.out))) _).trans (((cell_far (p := ⟨gb467, _, none⟩) (by first | exact Nat.ne_of_lt (Nat.lt_of_lt_of_le (by have := World.block_lt_of_cell? _ _ hw459_2; first | rwa [add_block] at this | exact this) GW467.out) | (rw [add_block]; exact Nat.ne_of_lt (Nat.lt_of_lt_of_le (by have := World.block_lt_of_cell? _ _ hw459_2; first | rwa [add_block] at this | exact this) GW467.out)) | (show (Addr.add _ _).block ≠ _; rw [add_block]; exact Nat.ne_of_lt (Nat.lt_of_lt_of_le (by have := World.block_lt_of_cell? _ _ hw459_2; first | rwa [add_block] at this | exact this) GW467.out)) | (dsimp only; exact Nat.ne_of_lt (Nat.lt_of_lt_of_le (by have := World.block_lt_of_cell? _ _ hw459_2; first | rwa [add_block] at this | exact this) GW467.out))) _).trans (hHeld.2.2.2.2))))⟩ (fun hHeld => ?_)
            clear hK K
            refine Rgn.pu HT_.out 11 10 ?_
            refine done_ (done_of HT_.out (by kernel_rfl)) ?_
            have hnb46 := NB467_449.out
            have hnc46 := NB449_467.out
            have hnb47 := NB467_450.out
            have hnc47 := NB450_467.out
            have hnb48 := NB467_458.out
            have hnc48 := NB458_467.out
            have hcz49_0 := Rgn.cz0 BK467.out
            have hcz49_1 := Rgn.cz1 BK467.out
            have hfz49_0 := blk_frozen BK467.out 0
            have hfz49_1 := blk_frozen BK467.out 1
            have hnb50 := NB458_449.out
            have hnc50 := NB449_458.out
            have hnb51 := NB458_450.out
            have hnc51 := NB450_458.out
            have hcz52_0 := Rgn.cz0 BK458.out
            have hcz52_1 := Rgn.cz1 BK458.out
            have hfz52_0 := blk_frozen BK458.out 0
            have hfz52_1 := blk_frozen BK458.out 1
            try go_wp2
            go_roundg kj27
            case measure => have := HJ3.out; have := HK2.out; have := HJ27.out; omega
            case rel => exact ⟨(wrap64 (x8_2 + 1)), (t460), (t463), (.slice Ao42 t460.length co42), (.slice Ao44 t463.length co44), (by first | rfl | (simp; done) | (simp [*]; done)), H', ⟨by have := HJ3.out; have := HK2.out; have := HJ27.out; omega⟩, ⟨by (with_reducible repeat (first | apply Kd.R_alloc | apply Kd.R_drewN | apply Kd.R_drew)); exact Kd.R_mono (Kd.R_far (p := ⟨gb458, 1, none⟩) (Kd.R_far (p := ⟨gb458, 0, none⟩) (Kd.R_far (p := ⟨gb467, 1, none⟩) (Kd.R_far (p := ⟨gb467, 0, none⟩) (Kd.R_types (Kd.R_types HO462.out BK467.out (by decide)) BK458.out (by decide)) (fun _ hk => hk.1.2) (.slice Ao42 t460.length co42)) (fun _ hk => hk.1.2) (.slice Ao44 t463.length co44)) (fun _ hk => hk.2) (.slice Ao42 t460.length co42)) (fun _ hk => hk.2) (.slice Ao44 t463.length co44)) (fun _ hk => hk.1.1)⟩, ⟨by (with_reducible repeat (first | apply Kd.S_alloc | apply Kd.S_drewN | apply Kd.S_drew)); exact Kd.S_mono (Kd.S_far (p := ⟨gb458, 1, none⟩) (Kd.S_far (p := ⟨gb458, 0, none⟩) (Kd.S_far (p := ⟨gb467, 1, none⟩) (Kd.S_far (p := ⟨gb467, 0, none⟩) (Kd.S_mono (Kd.S_mono HO465.out (fun k_ hk => (⟨hk, hk.2.2.2.2.2⟩ : _ ∧ k_ ≠ gb467))) (fun k_ hk => (⟨hk, hk.1.2.2.2.2.1⟩ : _ ∧ k_ ≠ gb458))) (fun _ hk => hk.1.2) (.slice Ao42 t460.length co42)) (fun _ hk => hk.1.2) (.slice Ao44 t463.length co44)) (fun _ hk => hk.2) (.slice Ao42 t460.length co42)) (fun _ hk => hk.2) (.slice Ao44 t463.length co44)) (fun _ hk => ⟨hk.1.1.1, ⟨hk.1.1.2.1, ⟨hk.1.1.2.2.1, ⟨hk.1.1.2.2.2.1, hk.1.1.2.2.2.2.1⟩⟩⟩⟩)⟩, ⟨Rgn.kf BK449.out⟩, ⟨Rgn.kf BK450.out⟩, ⟨by (with_reducible repeat (first | refine blk_drewN ?_ _ | refine blk_drew ?_ | refine blk_alloc ?_ _)); refine blk_put (cs := #[.slice Ao42 t460.length co42, .slice Ao37 x459001_2.length co37]) ?_ 1 _ rfl; (with_reducible repeat (first | refine blk_drewN ?_ _ | refine blk_drew ?_ | refine blk_alloc ?_ _)); refine blk_put (cs := #[.slice Ao36 x459000_2.length co36, .slice Ao37 x459001_2.length co37]) ?_ 0 _ rfl; (with_reducible repeat (first | refine blk_drewN ?_ _ | refine blk_drew ?_ | refine blk_alloc ?_ _)); refine blk_far ?_ NB458_467.out _; (with_reducible repeat (first | refine blk_drewN ?_ _ | refine blk_drew ?_ | refine blk_alloc ?_ _)); refine blk_far ?_ NB458_467.out _; (with_reducible repeat (first | refine blk_drewN ?_ _ | refine blk_drew ?_ | refine blk_alloc ?_ _)); exact BK458.out⟩, ⟨Rgn.bq HB.out⟩⟩
           ·
            replace c35 := Bool.eq_false_iff.mpr c35
            subst c35
            have H1 : (some (([] : List Int), ([] : List (S62)))) = some (r1, r2) := by rw [if_neg (show ¬ (false = true) by decide)] at H; exact H
            clear H
            have H := H1
            clear H1
            simp only [Option.some.injEq, Prod.mk.injEq] at H
            obtain ⟨rfl, rfl⟩ := H
            obtain ⟨Ao53, co53, eo53⟩ := Kd.R_slice HO_459000.out
            subst eo53
            obtain ⟨Ao54, co54, eo54⟩ := Kd.S_slice HO_459001.out
            subst eo54
            try go_wp2
            replace HO_459000 := Aside0.mk (Kd.R_drew HO_459000.out)
            replace HO_459001 := Aside0.mk (Kd.S_drew HO_459001.out)
            replace BK449 := Aside0.mk (blk_drew BK449.out)
            replace BK450 := Aside0.mk (blk_drew BK450.out)
            replace BK458 := Aside0.mk (blk_drew BK458.out)
            replace HB := Aside0.mk (below_drew1 HB.out)
            have p459 : 0 ≤ (x8_2 : Int) := of_decide_eq_true (by first | (with_reducible assumption) | assumption)
            have q459 : x8_2 < (l1.length : Int) := of_decide_eq_true (by first | (with_reducible assumption) | assumption)
            obtain ⟨ad459, A459_2, c459_2, e459, hx459_0, hx459_1, hx459_2, hl459_2, hi459_2⟩ := at_T93 HR1.out x8_2 p459 q459
            have hw459_2 := hx459_2
            have hw459_1 := hx459_1
            have hw459_0 := hx459_0
            cases e459
            replace hx459_0 := Rgn.hx HB.out hx459_0
            replace hx459_1 := Rgn.hx HB.out hx459_1
            replace hx459_2 := Rgn.hx HB.out hx459_2
            have HR459_2 := Aside0.mk hi459_2
            have HC459_2 := Aside0.mk hl459_2
            clear hi459_2 hl459_2
            replace p459 := eq_true p459
            replace q459 := eq_true q459
            refine start_ (n := 12) (S := fun w' => w'.cell? ⟨gb458, 0, none⟩ = some (.slice Ao53 x459000_2.length co53) ∧ w'.cell? ⟨gb458, 1, none⟩ = some (.slice Ao54 x459001_2.length co54) ∧ w'.cell? (ad459.add ((x8_2).toNat * 3)) = some (.int .i64 ((rd_T93 l1 x8_2).f0)) ∧ w'.cell? ⟨(ad459.add ((x8_2).toNat * 3)).block, (ad459.add ((x8_2).toNat * 3)).off + 1, none⟩ = some (.int .i64 ((rd_T93 l1 x8_2).f1)) ∧ w'.cell? ⟨(ad459.add ((x8_2).toNat * 3)).block, (ad459.add ((x8_2).toNat * 3)).off + 2, none⟩ = some (.slice A459_2 ((rd_T93 l1 x8_2).f2).length c459_2)) (ds := []) #[false, false, false, false, false, false, false, false, false, false, false, false] (by kernel_rfl) rfl rfl ⟨(blk_cell BK458.out 0).trans rfl, (blk_cell BK458.out 1).trans rfl, ((HB.out.cell (World.block_lt_of_cell? w _ hw459_0)).trans hw459_0), ((HB.out.cell (World.block_lt_of_cell? w _ hw459_1)).trans hw459_1), ((HB.out.cell (World.block_lt_of_cell? w _ hw459_2)).trans hw459_2)⟩ (fun hHeld => ?_); refine with_tabW spec_DiskDo.tab7 spec_DiskDo.bits7 (fun HT_ HW_ => ?_)
            generalize wc.drew = w55 at HO_459000 HO_459001 BK449 BK450 BK458 HB HR459_2 hx459_0 hx459_1 hx459_2 hHeld ⊢
            refine Rgn.pu HT_.out 1 39 ?_
            refine Rgn.pu HT_.out 2 40 ?_
            refine Rgn.pu HT_.out 3 41 ?_
            refine Rgn.tk HT_.out HW_.out 0 38 hHeld ?_
            refine Rgn.tk HT_.out HW_.out 4 42 hHeld ?_
            refine join_ (σ := Value × Value × Nat) 2 #[true, true, true, true, true, true, true, true, true, true, false, false] (fun s_ => [(43, .tuple #[.agg #[s_.1, s_.2.1], .bool false]), (9, .pointer (some ⟨s_.2.2, 0, none⟩)), (37, .tuple #[.agg #[s_.1, s_.2.1], .bool false]), (44, .agg #[s_.1, s_.2.1]), (45, .bool false)]) (fun s_ w' => (w'.cell? ⟨gb458, 0, none⟩ = some (.slice Ao53 x459000_2.length co53) ∧ w'.cell? ⟨gb458, 1, none⟩ = some (.slice Ao54 x459001_2.length co54) ∧ w'.cell? (ad459.add ((x8_2).toNat * 3)) = some (.int .i64 ((rd_T93 l1 x8_2).f0)) ∧ w'.cell? ⟨(ad459.add ((x8_2).toNat * 3)).block, (ad459.add ((x8_2).toNat * 3)).off + 1, none⟩ = some (.int .i64 ((rd_T93 l1 x8_2).f1)) ∧ w'.cell? ⟨(ad459.add ((x8_2).toNat * 3)).block, (ad459.add ((x8_2).toNat * 3)).off + 2, none⟩ = some (.slice A459_2 ((rd_T93 l1 x8_2).f2).length c459_2)) ∧ (Kd.R (Kd.int .u8) 5 w' w.heap.size (fun k_ => (w.heap.size ≤ k_)) s_.1 t460) ∧ (Kd.S k62 62 w' w.heap.size (fun k_ => (w.heap.size ≤ k_) ∧ some k_ ≠ (s_.1 : Value).ownBlock ∧ k_ ≠ gb449 ∧ k_ ≠ gb450 ∧ k_ ≠ gb458 ∧ k_ ≠ s_.2.2) s_.2.1 t463) ∧ True ∧ (w'.heap[gb449]? = some (.cells #[.slice A0_0 l0_0.length c0_0, .slice A0_1 l0_1.length c0_1] 29 (0, 0))) ∧ (w'.heap[gb450]? = some (.cells #[.slice none 0 0, .slice none 0 0] 29 (0, 0))) ∧ (w'.heap[gb458]? = some (.cells #[.slice Ao53 x459000_2.length co53, .slice Ao54 x459001_2.length co54] 29 (0, 0))) ∧ (w'.heap[s_.2.2]? = some (.cells #[.slice none 0 0, .slice none 0 0] 29 (0, 0))) ∧ (w.heap.size ≤ s_.2.2) ∧ (w.heap.size ≤ s_.2.2) ∧ (gb449 ≠ s_.2.2) ∧ (s_.2.2 ≠ gb449) ∧ (gb450 ≠ s_.2.2) ∧ (s_.2.2 ≠ gb450) ∧ (gb458 ≠ s_.2.2) ∧ (s_.2.2 ≠ gb458) ∧ (Below w.heap.size w w')) ?_ ?_
            rotate_left
            ·
             intro hCont
             refine two_ (i := 5) (j := 9) (Ni := some 43) (Nj := some 9) #[true, true, true, true, true, true, false, false, false, false, false, false] #[true, true, true, true, true, false, false, false, false, true, false, false] rfl rfl rfl rfl (two_of HT_.out (by kernel_rfl)) (by decide) (by decide) (fun K hK => ?_) (fun K hK => ?_)
             ·
              skip
              refine Rgn.gs Try.func86 #[.agg #[.slice Ao53 x459000_2.length co53, .slice Ao54 x459001_2.length co54], .agg #[.int .i64 ((rd_T93 l1 x8_2).f0), .int .i64 ((rd_T93 l1 x8_2).f1), .slice A459_2 ((rd_T93 l1 x8_2).f2).length c459_2]] ?_
              with_reducible refine (spec_l1Do.calls kj27 (fun k_ => some k_ = (.slice Ao53 x459000_2.length co53 : Value).ownBlock) (.slice Ao53 x459000_2.length co53) x459000_2 (fun k_ => ((w.heap.size ≤ k_) ∧ (some k_ ≠ (.slice Ao53 x459000_2.length co53 : Value).ownBlock ∧ (k_ ≠ gb449 ∧ (k_ ≠ gb450 ∧ k_ ≠ gb458))))) _ _ x459001_2 ((rd_T93 l1 x8_2).f0) ((rd_T93 l1 x8_2).f1) _ _ ((rd_T93 l1 x8_2).f2) t460 t463 false w _ ?side1 ?side2 ?side3 ?side4 ?side5 A34.out).mono ?_
              (case side1 => exact Rgn.bq HB.out)
              (case side2 => exact Kd.R_tight rfl HO_459000.out)
              (case side3 => exact Kd.S_mono (HO_459001.out) (fun k_ hk_ => ⟨hk_, hk_.2.1⟩))
              (case side4 => exact Kd.C_kept_came (Kd.heap_int .u8) HR459_2.out (Rgn.bq HB.out) (fun k_ hs_ => Or.elim hs_ (fun e_ => Kd.R_base HO_459000.out k_ e_.symm) (fun h_ => h_.1)))
              (case side5 => exact HC459_2.out)
              rintro e w56 ⟨v461, v464, rfl, ho0, ho1, hb, hkp⟩
              refine ⟨_, rfl, ?_⟩
              replace HO_459001 := Aside0.mk trivial
              have HO462 := Aside0.mk (Kd.R_mono (ok' := fun k_ => (w.heap.size ≤ k_)) ho0 (fun k_ hk_ => Or.elim hk_ (fun hs_ => (HO_459000.out.1 k_ (hs_).symm)) (fun hn_ => (Nat.le_trans (below_size (Rgn.bq HB.out)) hn_))))
              have HO465 := Aside0.mk (Kd.S_mono (ok' := fun k_ => (w.heap.size ≤ k_) ∧ some k_ ≠ (v461 : Value).ownBlock ∧ k_ ≠ gb449 ∧ k_ ≠ gb450 ∧ k_ ≠ gb458) ho1 (fun k_ hk_ => ⟨Or.elim hk_.1 (fun hs_ => Or.elim hs_ (fun hs_ => (HO_459000.out.1 k_ (hs_).symm)) (fun hs_ => hs_.1)) (fun hn_ => (Nat.le_trans (below_size (Rgn.bq HB.out)) hn_)), hk_.2, Or.elim hk_.1 (fun hs_ => Or.elim hs_ (fun hs_ => fun e_ => (Kd.R_ne HO_459000.out BK449.out (by decide)) (by rw [← e_]; exact hs_)) (fun hs_ => hs_.2.2.1)) (fun hn_ => (Kd.freshB (g := gb449) (o := .cells #[.slice A0_0 l0_0.length c0_0, .slice A0_1 l0_1.length c0_1] 29 (0, 0)) (Rgn.kb BK449.out) k_ hn_)), Or.elim hk_.1 (fun hs_ => Or.elim hs_ (fun hs_ => fun e_ => (Kd.R_ne HO_459000.out BK450.out (by decide)) (by rw [← e_]; exact hs_)) (fun hs_ => hs_.2.2.2.1)) (fun hn_ => (Kd.freshB (g := gb450) (o := .cells #[.slice none 0 0, .slice none 0 0] 29 (0, 0)) (Rgn.kb BK450.out) k_ hn_)), Or.elim hk_.1 (fun hs_ => Or.elim hs_ (fun hs_ => fun e_ => (Kd.R_ne HO_459000.out BK458.out (by decide)) (by rw [← e_]; exact hs_)) (fun hs_ => hs_.2.2.2.2)) (fun hn_ => (Kd.freshB (g := gb458) (o := .cells #[.slice Ao53 x459000_2.length co53, .slice Ao54 x459001_2.length co54] 29 (0, 0)) (Rgn.kb BK458.out) k_ hn_))⟩))
              replace BK449 := Aside0.mk (blk_kept (Rgn.kb BK449.out) hkp (fun hs_ => Or.elim hs_ (fun e_ => (Kd.R_ne HO_459000.out BK449.out (by decide)) e_) (fun h_ => h_.2.2.1 rfl)))
              replace BK450 := Aside0.mk (blk_kept (Rgn.kb BK450.out) hkp (fun hs_ => Or.elim hs_ (fun e_ => (Kd.R_ne HO_459000.out BK450.out (by decide)) e_) (fun h_ => h_.2.2.2.1 rfl)))
              replace BK458 := Aside0.mk (blk_kept (Rgn.kb BK458.out) hkp (fun hs_ => Or.elim hs_ (fun e_ => (Kd.R_ne HO_459000.out BK458.out (by decide)) e_) (fun h_ => h_.2.2.2.2 rfl)))
              replace HB := Aside0.mk (hb)
              clear HO_459000
              (try clear hb)
              (try clear hkp)
              (try clear ho0)
              (try clear ho1)
              refine hK.out _ _ ⟨(blk_cell BK458.out 0).trans rfl, (blk_cell BK458.out 1).trans rfl, ((HB.out.cell (World.block_lt_of_cell? w _ hw459_0)).trans hw459_0), ((HB.out.cell (World.block_lt_of_cell? w _ hw459_1)).trans hw459_1), ((HB.out.cell (World.block_lt_of_cell? w _ hw459_2)).trans hw459_2)⟩ (fun hHeld => ?_)
              clear hK K
              refine norm_ (a' := ?_) ?_ ?_
              rotate_left
              ·
               show Act.put _ (some 43) _ = _
               simp only [Act.put, List.setIfInBounds_toArray, List.set_cons_zero, List.set_cons_succ, i64_w, i32_w]
               rfl
              refine Rgn.pu HT_.out 6 37 ?_
              refine Rgn.pu HT_.out 7 44 ?_
              refine Rgn.pu HT_.out 8 45 ?_
              refine one_ (i := 9) (N := some 9) #[true, true, true, true, true, true, true, true, true, true, false, false] rfl rfl (one_of HT_.out (by kernel_rfl)) (by decide) (fun K hK => ?_)
              refine box_step ?hg (N := 9) ?hd (cs := #[.slice none 0 0, .slice none 0 0]) (t := 29) ?hr ?_; (case hd => rfl); (case hg => rfl); (case hr => first | (go_simp; done) | (go_simp; rfl))
              intro gb467 hg w57 hbox hb
              replace HO_459001 := Aside0.mk trivial
              replace HO462 := Aside0.mk (Kd.R_below (Rgn.rq HO462.out) hb)
              replace HO465 := Aside0.mk (Kd.S_below (Kd.S_elderB (Rgn.sq HO465.out) gb467 (Nat.le_of_eq hg.symm)) hb)
              have BK467 := Aside0.mk (hbox)
              have GW467 := Aside0.mk (Rgn.ge hg HB.out)
              have GE467 := Aside0.mk (Rgn.ge hg HB.out)
              replace HB := Aside0.mk (below_step (Rgn.bq HB.out) hb)
              have NB449_467 := Aside0.mk (Rgn.nl hg BK449.out)
              have NB467_449 := Aside0.mk (Rgn.ng hg BK449.out)
              replace BK449 := Aside0.mk (Rgn.bb BK449.out hb)
              have NB450_467 := Aside0.mk (Rgn.nl hg BK450.out)
              have NB467_450 := Aside0.mk (Rgn.ng hg BK450.out)
              replace BK450 := Aside0.mk (Rgn.bb BK450.out hb)
              have NB458_467 := Aside0.mk (Rgn.nl hg BK458.out)
              have NB467_458 := Aside0.mk (Rgn.ng hg BK458.out)
              replace BK458 := Aside0.mk (Rgn.bb BK458.out hb)
              clear hb hbox hg
              refine hK.out _ _ ⟨(blk_cell BK458.out 0).trans rfl, (blk_cell BK458.out 1).trans rfl, ((HB.out.cell (World.block_lt_of_cell? w _ hw459_0)).trans hw459_0), ((HB.out.cell (World.block_lt_of_cell? w _ hw459_1)).trans hw459_1), ((HB.out.cell (World.block_lt_of_cell? w _ hw459_2)).trans hw459_2)⟩ (fun hHeld => ?_)
              clear hK K
              refine norm_ (a' := ?_) ?_ ?_
              rotate_left
              ·
               show Act.put _ (some 9) _ = _
               simp only [Act.put, List.setIfInBounds_toArray, List.set_cons_zero, List.set_cons_succ, i64_w, i32_w]
               rfl
              exact norm_ (by simp only [putAll, Act.put, List.setIfInBounds_toArray, List.set_cons_zero, List.set_cons_succ]) (hCont (v461, v464, gb467) _ ⟨hHeld, (Rgn.rq HO462.out), (Rgn.sq (Kd.S_mono HO465.out (fun _ hk => ⟨hk.1.1, ⟨hk.1.2.1, ⟨hk.1.2.2.1, ⟨hk.1.2.2.2.1, ⟨hk.1.2.2.2.2, hk.2⟩⟩⟩⟩⟩))), trivial, (Rgn.kb BK449.out), (Rgn.kb BK450.out), (Rgn.kb BK458.out), (Rgn.kb BK467.out), GW467.out, GE467.out, NB449_467.out, NB467_449.out, NB450_467.out, NB467_450.out, NB458_467.out, NB467_458.out, (Rgn.bq HB.out)⟩)
             ·
              skip
              refine box_step ?hg (N := 9) ?hd (cs := #[.slice none 0 0, .slice none 0 0]) (t := 29) ?hr ?_; (case hd => rfl); (case hg => rfl); (case hr => first | (go_simp; done) | (go_simp; rfl))
              intro gb467 hg w56 hbox hb
              replace HO_459000 := Aside0.mk (Kd.R_below (Rgn.rq HO_459000.out) hb)
              replace HO_459001 := Aside0.mk (Kd.S_below (Kd.S_elderB (Rgn.sq HO_459001.out) gb467 (Nat.le_of_eq hg.symm)) hb)
              have BK467 := Aside0.mk (hbox)
              have GW467 := Aside0.mk (Rgn.ge hg HB.out)
              have GE467 := Aside0.mk (Rgn.ge hg HB.out)
              replace HB := Aside0.mk (below_step (Rgn.bq HB.out) hb)
              have NB449_467 := Aside0.mk (Rgn.nl hg BK449.out)
              have NB467_449 := Aside0.mk (Rgn.ng hg BK449.out)
              replace BK449 := Aside0.mk (Rgn.bb BK449.out hb)
              have NB450_467 := Aside0.mk (Rgn.nl hg BK450.out)
              have NB467_450 := Aside0.mk (Rgn.ng hg BK450.out)
              replace BK450 := Aside0.mk (Rgn.bb BK450.out hb)
              have NB458_467 := Aside0.mk (Rgn.nl hg BK458.out)
              have NB467_458 := Aside0.mk (Rgn.ng hg BK458.out)
              replace BK458 := Aside0.mk (Rgn.bb BK458.out hb)
              clear hb hbox hg
              refine hK.out _ _ ⟨(blk_cell BK458.out 0).trans rfl, (blk_cell BK458.out 1).trans rfl, ((HB.out.cell (World.block_lt_of_cell? w _ hw459_0)).trans hw459_0), ((HB.out.cell (World.block_lt_of_cell? w _ hw459_1)).trans hw459_1), ((HB.out.cell (World.block_lt_of_cell? w _ hw459_2)).trans hw459_2)⟩ (fun hHeld => ?_)
              clear hK K
              refine norm_ (a' := ?_) ?_ ?_
              rotate_left
              ·
               show Act.put _ (some 9) _ = _
               simp only [Act.put, List.setIfInBounds_toArray, List.set_cons_zero, List.set_cons_succ, i64_w, i32_w]
               rfl
              refine one_ (i := 5) (N := some 43) #[true, true, true, true, true, true, false, false, false, true, false, false] rfl rfl (one_of HT_.out (by kernel_rfl)) (by decide) (fun K hK => ?_)
              refine Rgn.gs Try.func86 #[.agg #[.slice Ao53 x459000_2.length co53, .slice Ao54 x459001_2.length co54], .agg #[.int .i64 ((rd_T93 l1 x8_2).f0), .int .i64 ((rd_T93 l1 x8_2).f1), .slice A459_2 ((rd_T93 l1 x8_2).f2).length c459_2]] ?_
              with_reducible refine (spec_l1Do.calls kj27 (fun k_ => some k_ = (.slice Ao53 x459000_2.length co53 : Value).ownBlock) (.slice Ao53 x459000_2.length co53) x459000_2 (fun k_ => (((w.heap.size ≤ k_) ∧ (some k_ ≠ (.slice Ao53 x459000_2.length co53 : Value).ownBlock ∧ (k_ ≠ gb449 ∧ (k_ ≠ gb450 ∧ k_ ≠ gb458)))) ∧ k_ ≠ gb467)) _ _ x459001_2 ((rd_T93 l1 x8_2).f0) ((rd_T93 l1 x8_2).f1) _ _ ((rd_T93 l1 x8_2).f2) t460 t463 false w _ ?side1 ?side2 ?side3 ?side4 ?side5 A34.out).mono ?_
              (case side1 => exact Rgn.bq HB.out)
              (case side2 => exact Kd.R_tight rfl HO_459000.out)
              (case side3 => exact Kd.S_mono (HO_459001.out) (fun k_ hk_ => ⟨hk_, hk_.1.2.1⟩))
              (case side4 => exact Kd.C_kept_came (Kd.heap_int .u8) HR459_2.out (Rgn.bq HB.out) (fun k_ hs_ => Or.elim hs_ (fun e_ => Kd.R_base HO_459000.out k_ e_.symm) (fun h_ => h_.1.1)))
              (case side5 => exact HC459_2.out)
              rintro e w57 ⟨v461, v464, rfl, ho0, ho1, hb, hkp⟩
              refine ⟨_, rfl, ?_⟩
              replace HO_459001 := Aside0.mk trivial
              have HO462 := Aside0.mk (Kd.R_mono (ok' := fun k_ => (w.heap.size ≤ k_)) ho0 (fun k_ hk_ => Or.elim hk_ (fun hs_ => (HO_459000.out.1 k_ (hs_).symm)) (fun hn_ => (Nat.le_trans (below_size (Rgn.bq HB.out)) hn_))))
              have HO465 := Aside0.mk (Kd.S_mono (ok' := fun k_ => (w.heap.size ≤ k_) ∧ some k_ ≠ (v461 : Value).ownBlock ∧ k_ ≠ gb449 ∧ k_ ≠ gb450 ∧ k_ ≠ gb458 ∧ k_ ≠ gb467) ho1 (fun k_ hk_ => ⟨Or.elim hk_.1 (fun hs_ => Or.elim hs_ (fun hs_ => (HO_459000.out.1 k_ (hs_).symm)) (fun hs_ => hs_.1.1)) (fun hn_ => (Nat.le_trans (below_size (Rgn.bq HB.out)) hn_)), hk_.2, Or.elim hk_.1 (fun hs_ => Or.elim hs_ (fun hs_ => fun e_ => (Kd.R_ne HO_459000.out BK449.out (by decide)) (by rw [← e_]; exact hs_)) (fun hs_ => hs_.1.2.2.1)) (fun hn_ => (Kd.freshB (g := gb449) (o := .cells #[.slice A0_0 l0_0.length c0_0, .slice A0_1 l0_1.length c0_1] 29 (0, 0)) (Rgn.kb BK449.out) k_ hn_)), Or.elim hk_.1 (fun hs_ => Or.elim hs_ (fun hs_ => fun e_ => (Kd.R_ne HO_459000.out BK450.out (by decide)) (by rw [← e_]; exact hs_)) (fun hs_ => hs_.1.2.2.2.1)) (fun hn_ => (Kd.freshB (g := gb450) (o := .cells #[.slice none 0 0, .slice none 0 0] 29 (0, 0)) (Rgn.kb BK450.out) k_ hn_)), Or.elim hk_.1 (fun hs_ => Or.elim hs_ (fun hs_ => fun e_ => (Kd.R_ne HO_459000.out BK458.out (by decide)) (by rw [← e_]; exact hs_)) (fun hs_ => hs_.1.2.2.2.2)) (fun hn_ => (Kd.freshB (g := gb458) (o := .cells #[.slice Ao53 x459000_2.length co53, .slice Ao54 x459001_2.length co54] 29 (0, 0)) (Rgn.kb BK458.out) k_ hn_)), Or.elim hk_.1 (fun hs_ => Or.elim hs_ (fun hs_ => fun e_ => (Kd.R_ne HO_459000.out BK467.out (by decide)) (by rw [← e_]; exact hs_)) (fun hs_ => hs_.2)) (fun hn_ => (Kd.freshB (g := gb467) (o := .cells #[.slice none 0 0, .slice none 0 0] 29 (0, 0)) (Rgn.kb BK467.out) k_ hn_))⟩))
              replace BK449 := Aside0.mk (blk_kept (Rgn.kb BK449.out) hkp (fun hs_ => Or.elim hs_ (fun e_ => (Kd.R_ne HO_459000.out BK449.out (by decide)) e_) (fun h_ => h_.1.2.2.1 rfl)))
              replace BK450 := Aside0.mk (blk_kept (Rgn.kb BK450.out) hkp (fun hs_ => Or.elim hs_ (fun e_ => (Kd.R_ne HO_459000.out BK450.out (by decide)) e_) (fun h_ => h_.1.2.2.2.1 rfl)))
              replace BK458 := Aside0.mk (blk_kept (Rgn.kb BK458.out) hkp (fun hs_ => Or.elim hs_ (fun e_ => (Kd.R_ne HO_459000.out BK458.out (by decide)) e_) (fun h_ => h_.1.2.2.2.2 rfl)))
              replace BK467 := Aside0.mk (blk_kept (Rgn.kb BK467.out) hkp (fun hs_ => Or.elim hs_ (fun e_ => (Kd.R_ne HO_459000.out BK467.out (by decide)) e_) (fun h_ => h_.2 rfl)))
              replace HB := Aside0.mk (hb)
              clear HO_459000
              (try clear hb)
              (try clear hkp)
              (try clear ho0)
              (try clear ho1)
              refine hK.out _ _ ⟨(blk_cell BK458.out 0).trans rfl, (blk_cell BK458.out 1).trans rfl, ((HB.out.cell (World.block_lt_of_cell? w _ hw459_0)).trans hw459_0), ((HB.out.cell (World.block_lt_of_cell? w _ hw459_1)).trans hw459_1), ((HB.out.cell (World.block_lt_of_cell? w _ hw459_2)).trans hw459_2)⟩ (fun hHeld => ?_)
              clear hK K
              refine norm_ (a' := ?_) ?_ ?_
              rotate_left
              ·
               show Act.put _ (some 43) _ = _
               simp only [Act.put, List.setIfInBounds_toArray, List.set_cons_zero, List.set_cons_succ, i64_w, i32_w]
               rfl
              refine Rgn.pu HT_.out 6 37 ?_
              refine Rgn.pu HT_.out 7 44 ?_
              refine Rgn.pu HT_.out 8 45 ?_
              exact norm_ (by simp only [putAll, Act.put, List.setIfInBounds_toArray, List.set_cons_zero, List.set_cons_succ]) (hCont (v461, v464, gb467) _ ⟨hHeld, (Rgn.rq HO462.out), (Rgn.sq HO465.out), trivial, (Rgn.kb BK449.out), (Rgn.kb BK450.out), (Rgn.kb BK458.out), (Rgn.kb BK467.out), GW467.out, GE467.out, NB449_467.out, NB467_449.out, NB450_467.out, NB467_450.out, NB458_467.out, NB467_458.out, (Rgn.bq HB.out)⟩)
            rintro ⟨v461, v464, gb467⟩ w58 ⟨hS_, h0_, h1_, h2_, h3_, h4_, h5_, h6_, h7_, h8_, h9_, h10_, h11_, h12_, h13_, h14_, h15_⟩
            have HO462 : Aside0 (Kd.R (Kd.int .u8) 5 w58 w.heap.size (fun k_ => (w.heap.size ≤ k_)) v461 t460) := ⟨h0_⟩
            have HO465 : Aside0 (Kd.S k62 62 w58 w.heap.size (fun k_ => (w.heap.size ≤ k_) ∧ some k_ ≠ (v461 : Value).ownBlock ∧ k_ ≠ gb449 ∧ k_ ≠ gb450 ∧ k_ ≠ gb458 ∧ k_ ≠ gb467) v464 t463) := ⟨h1_⟩
            replace HO_459001 : Aside0 True := ⟨h2_⟩
            replace BK449 : Aside0 (w58.heap[gb449]? = some (.cells #[.slice A0_0 l0_0.length c0_0, .slice A0_1 l0_1.length c0_1] 29 (0, 0))) := ⟨h3_⟩
            replace BK450 : Aside0 (w58.heap[gb450]? = some (.cells #[.slice none 0 0, .slice none 0 0] 29 (0, 0))) := ⟨h4_⟩
            replace BK458 : Aside0 (w58.heap[gb458]? = some (.cells #[.slice Ao53 x459000_2.length co53, .slice Ao54 x459001_2.length co54] 29 (0, 0))) := ⟨h5_⟩
            have BK467 : Aside0 (w58.heap[gb467]? = some (.cells #[.slice none 0 0, .slice none 0 0] 29 (0, 0))) := ⟨h6_⟩
            have GW467 : Aside0 (w.heap.size ≤ gb467) := ⟨h7_⟩
            have GE467 : Aside0 (w.heap.size ≤ gb467) := ⟨h8_⟩
            have NB449_467 : Aside0 (gb449 ≠ gb467) := ⟨h9_⟩
            have NB467_449 : Aside0 (gb467 ≠ gb449) := ⟨h10_⟩
            have NB450_467 : Aside0 (gb450 ≠ gb467) := ⟨h11_⟩
            have NB467_450 : Aside0 (gb467 ≠ gb450) := ⟨h12_⟩
            have NB458_467 : Aside0 (gb458 ≠ gb467) := ⟨h13_⟩
            have NB467_458 : Aside0 (gb467 ≠ gb458) := ⟨h14_⟩
            replace HB : Aside0 (Below w.heap.size w w58) := ⟨h15_⟩
            clear HO_459000 h0_ h10_ h11_ h12_ h13_ h14_ h15_ h1_ h2_ h3_ h4_ h5_ h6_ h7_ h8_ h9_
            have hHeld : w58.cell? ⟨gb458, 0, none⟩ = some (.slice Ao53 x459000_2.length co53) ∧ w58.cell? ⟨gb458, 1, none⟩ = some (.slice Ao54 x459001_2.length co54) ∧ w58.cell? (ad459.add ((x8_2).toNat * 3)) = some (.int .i64 ((rd_T93 l1 x8_2).f0)) ∧ w58.cell? ⟨(ad459.add ((x8_2).toNat * 3)).block, (ad459.add ((x8_2).toNat * 3)).off + 1, none⟩ = some (.int .i64 ((rd_T93 l1 x8_2).f1)) ∧ w58.cell? ⟨(ad459.add ((x8_2).toNat * 3)).block, (ad459.add ((x8_2).toNat * 3)).off + 2, none⟩ = some (.slice A459_2 ((rd_T93 l1 x8_2).f2).length c459_2) := hS_
            obtain ⟨Ao59, co59, eo59⟩ := Kd.R_slice HO462.out
            (first | subst eo59 | (injection eo59 with f1_ f2_ f3_; have f4_ := f1_.symm; have f5_ := f3_.symm; clear f1_ f2_ f3_; subst f4_; subst f5_))
            obtain ⟨Ao61, co61, eo61⟩ := Kd.S_slice HO465.out
            (first | subst eo61 | (injection eo61 with f1_ f2_ f3_; have f4_ := f1_.symm; have f5_ := f3_.symm; clear f1_ f2_ f3_; subst f4_; subst f5_))
            refine norm_ (a' := ?_) ?_ ?_
            rotate_left
            ·
             simp only [putAll, Act.put, List.setIfInBounds_toArray, List.set_cons_zero, List.set_cons_succ]
             rfl
            refine one_ (i := 10) (N := none) #[true, true, true, true, true, true, true, true, true, true, true, false] rfl rfl (one_of HT_.out (by kernel_rfl)) (by decide) (fun K hK => ?_)
            have hs60 : w58.cell? ⟨gb467, 0, none⟩ = some (.slice none 0 0) := (blk_cell BK467.out 0).trans rfl
            have hfs60 := blk_frozen BK467.out 0
            have hns60_0 := NB449_467.out
            have hns60_1 := NB450_467.out
            have hns60_2 := NB458_467.out
            have hms60_0 := NB467_449.out
            have hms60_1 := NB467_450.out
            have hms60_2 := NB467_458.out
            have hs62 : w58.cell? ⟨gb467, 1, none⟩ = some (.slice none 0 0) := (blk_cell BK467.out 1).trans rfl
            have hfs62 := blk_frozen BK467.out 1
            have hns62_0 := NB449_467.out
            have hns62_1 := NB450_467.out
            have hns62_2 := NB458_467.out
            have hms62_0 := NB467_449.out
            have hms62_1 := NB467_450.out
            have hms62_2 := NB467_458.out
            refine skip_ (w1 := ?_) (by rfl) rfl ?_ ?_
            rotate_left
            ·
             go_simp
             rfl
            refine hK.out _ _ ⟨((cell_far (p := ⟨gb467, _, none⟩) NB458_467.out _).trans (((cell_far (p := ⟨gb467, _, none⟩) NB458_467.out _).trans (hHeld.1)))), ((cell_far (p := ⟨gb467, _, none⟩) NB458_467.out _).trans (((cell_far (p := ⟨gb467, _, none⟩) NB458_467.out _).trans (hHeld.2.1)))), ((cell_far (p := ⟨gb467, _, none⟩) (by first | exact Nat.ne_of_lt (Nat.lt_of_lt_of_le (by have := World.block_lt_of_cell? _ _ hw459_0; first | rwa [add_block] at this | exact this) GW467.out) | (rw [add_block]; exact Nat.ne_of_lt (Nat.lt_of_lt_of_le (by have := World.block_lt_of_cell? _ _ hw459_0; first | rwa [add_block] at this | exact this) GW467.out)) | (show (Addr.add _ _).block ≠ _; rw [add_block]; exact Nat.ne_of_lt (Nat.lt_of_lt_of_le (by have := World.block_lt_of_cell? _ _ hw459_0; first | rwa [add_block] at this | exact this) GW467.out)) | (dsimp only; exact Nat.ne_of_lt (Nat.lt_of_lt_of_le (by have := World.block_lt_of_cell? _ _ hw459_0; first | rwa [add_block] at this | exact this) GW467.out))) _).trans (((cell_far (p := ⟨gb467, _, none⟩) (by first | exact Nat.ne_of_lt (Nat.lt_of_lt_of_le (by have := World.block_lt_of_cell? _ _ hw459_0; first | rwa [add_block] at this | exact this) GW467.out) | (rw [add_block]; exact Nat.ne_of_lt (Nat.lt_of_lt_of_le (by have := World.block_lt_of_cell? _ _ hw459_0; first | rwa [add_block] at this | exact this) GW467.out)) | (show (Addr.add _ _).block ≠ _; rw [add_block]; exact Nat.ne_of_lt (Nat.lt_of_lt_of_le (by have := World.block_lt_of_cell? _ _ hw459_0; first | rwa [add_block] at this | exact this) GW467.out)) | (dsimp only; exact Nat.ne_of_lt (Nat.lt_of_lt_of_le (by have := World.block_lt_of_cell? _ _ hw459_0; first | rwa [add_block] at this | exact this) GW467.out))) _).trans (hHeld.2.2.1)))), ((cell_far (p := ⟨gb467, _, none⟩) (by first | exact Nat.ne_of_lt (Nat.lt_of_lt_of_le (by have := World.block_lt_of_cell? _ _ hw459_1; first | rwa [add_block] at this | exact this) GW467.out) | (rw [add_block]; exact Nat.ne_of_lt (Nat.lt_of_lt_of_le (by have := World.block_lt_of_cell? _ _ hw459_1; first | rwa [add_block] at this | exact this) GW467.out)) | (show (Addr.add _ _).block ≠ _; rw [add_block]; exact Nat.ne_of_lt (Nat.lt_of_lt_of_le (by have := World.block_lt_of_cell? _ _ hw459_1; first | rwa [add_block] at this | exact this) GW467.out)) | (dsimp only; exact Nat.ne_of_lt (Nat.lt_of_lt_of_le (by have := World.block_lt_of_cell? _ _ hw459_1; first | rwa [add_block] at this | exact this) GW467.out))) _).trans (((cell_far (p := ⟨gb467, _, none⟩) (by first | exact Nat.ne_of_lt (Nat.lt_of_lt_of_le (by have := World.block_lt_of_cell? _ _ hw459_1; first | rwa [add_block] at this | exact this) GW467.out) | (rw [add_block]; exact Nat.ne_of_lt (Nat.lt_of_lt_of_le (by have := World.block_lt_of_cell? _ _ hw459_1; first | rwa [add_block] at this | exact this) GW467.out)) | (show (Addr.add _ _).block ≠ _; rw [add_block]; exact Nat.ne_of_lt (Nat.lt_of_lt_of_le (by have := World.block_lt_of_cell? _ _ hw459_1; first | rwa [add_block] at this | exact this) GW467.out)) | (dsimp only; exact Nat.ne_of_lt (Nat.lt_of_lt_of_le (by have := World.block_lt_of_cell? _ _ hw459_1; first | rwa [add_block] at this | exact this) GW467.out))) _).trans (hHeld.2.2.2.1)))), ((cell_far (p := ⟨gb467, _, none⟩) (by first | exact Nat.ne_of_lt (Nat.lt_of_lt_of_le (by have := World.block_lt_of_cell? _ _ hw459_2; first | rwa [add_block] at this | exact this) GW467.out) | (rw [add_block]; exact Nat.ne_of_lt (Nat.lt_of_lt_of_le (by have := World.block_lt_of_cell? _ _ hw459_2; first | rwa [add_block] at this | exact this) GW467.out)) | (show (Addr.add _ _).block ≠ _; rw [add_block]; exact Nat.ne_of_lt (Nat.lt_of_lt_of_le (by have := World.block_lt_of_cell? _ _ hw459_2; first | rwa [add_block] at this | exact this) GW467.out)) | (dsimp only; exact Nat.ne_of_lt (Nat.lt_of_lt_of_le (by have := World.block_lt_of_cell? _ _ hw459_2; first | rwa [add_block] at this | exact this) GW467.out))) _).trans (((cell_far (p := ⟨gb467, _, none⟩) (by first | exact Nat.ne_of_lt (Nat.lt_of_lt_of_le (by have := World.block_lt_of_cell? _ _ hw459_2; first | rwa [add_block] at this | exact this) GW467.out) | (rw [add_block]; exact Nat.ne_of_lt (Nat.lt_of_lt_of_le (by have := World.block_lt_of_cell? _ _ hw459_2; first | rwa [add_block] at this | exact this) GW467.out)) | (show (Addr.add _ _).block ≠ _; rw [add_block]; exact Nat.ne_of_lt (Nat.lt_of_lt_of_le (by have := World.block_lt_of_cell? _ _ hw459_2; first | rwa [add_block] at this | exact this) GW467.out)) | (dsimp only; exact Nat.ne_of_lt (Nat.lt_of_lt_of_le (by have := World.block_lt_of_cell? _ _ hw459_2; first | rwa [add_block] at this | exact this) GW467.out))) _).trans (hHeld.2.2.2.2))))⟩ (fun hHeld => ?_)
            clear hK K
            refine Rgn.pu HT_.out 11 10 ?_
            refine done_ (done_of HT_.out (by kernel_rfl)) ?_
            have hnb63 := NB450_449.out
            have hnc63 := NB449_450.out
            have hnb64 := NB450_458.out
            have hnc64 := NB458_450.out
            have hnb65 := NB450_467.out
            have hnc65 := NB467_450.out
            have hcz66_0 := Rgn.cz0 BK450.out
            have hcz66_1 := Rgn.cz1 BK450.out
            have hfz66_0 := blk_frozen BK450.out 0
            have hfz66_1 := blk_frozen BK450.out 1
            try go_wp2
            refine bodyPost_ret (results_cell_row rfl _ _ gb450 29 #[.slice none 0 0, .slice none 0 0] (0, 0) _ rfl (by (with_reducible repeat (first | refine blk_drewN ?_ _ | refine blk_drew ?_ | refine blk_alloc ?_ _)); refine blk_put (cs := #[.slice none 0 0, .slice none 0 0]) ?_ 1 _ rfl; (with_reducible repeat (first | refine blk_drewN ?_ _ | refine blk_drew ?_ | refine blk_alloc ?_ _)); refine blk_put (cs := #[.slice none 0 0, .slice none 0 0]) ?_ 0 _ rfl; (with_reducible repeat (first | refine blk_drewN ?_ _ | refine blk_drew ?_ | refine blk_alloc ?_ _)); refine blk_far ?_ NB450_467.out _; (with_reducible repeat (first | refine blk_drewN ?_ _ | refine blk_drew ?_ | refine blk_alloc ?_ _)); refine blk_far ?_ NB450_467.out _; (with_reducible repeat (first | refine blk_drewN ?_ _ | refine blk_drew ?_ | refine blk_alloc ?_ _)); exact BK450.out) Try.underlying29 rfl (by kernel_rfl)) rfl ?_
            exact ⟨_, _, by first | rfl | (simp [errW_none, errW_some] <;> rfl) | (simp [*, errW_none, errW_some] <;> rfl), by first | exact Kd.R_nil _ _ _ _ _ | exact Kd.N_nil _ _ _ _ _ | exact Kd.V_nil _ _ _ _ _ | exact Kd.Q_nil _ _ _ _ _ | exact Kd.S_nil _ _ _ _ _, (by first | exact Kd.S_nil _ _ _ _ _ | exact Kd.N_nil _ _ _ _ _ | exact Kd.V_nil _ _ _ _ _ | exact Kd.Q_nil _ _ _ _ _ | exact Kd.R_nil _ _ _ _ _), Rgn.bq HB.out⟩
          ·
           rw [if_neg c33] at H
           exact absurd H (by simp)
         ·
          rw [if_neg c32] at H
          exact absurd H (by simp)
        ·
         replace c31 := Bool.eq_false_iff.mpr c31
         subst c31
         have H1 : (some (x459000_2, x459001_2)) = some (r1, r2) := by rw [if_neg (show ¬ (false = true) by decide)] at H; exact H
         clear H
         have H := H1
         clear H1
         simp only [Option.some.injEq, Prod.mk.injEq] at H
         obtain ⟨rfl, rfl⟩ := H
         have hnb67 := NB458_449.out
         have hnc67 := NB449_458.out
         have hnb68 := NB458_450.out
         have hnc68 := NB450_458.out
         have hcz69_0 := Rgn.cz0 BK458.out
         have hcz69_1 := Rgn.cz1 BK458.out
         have hfz69_0 := blk_frozen BK458.out 0
         have hfz69_1 := blk_frozen BK458.out 1
         obtain ⟨Ao70, co70, eo70⟩ := Kd.R_slice HO_459000.out
         subst eo70
         have hnb71 := NB450_449.out
         have hnc71 := NB449_450.out
         have hcz72_0 := Rgn.cz0 BK450.out
         have hcz72_1 := Rgn.cz1 BK450.out
         have hfz72_0 := blk_frozen BK450.out 0
         have hfz72_1 := blk_frozen BK450.out 1
         obtain ⟨Ao73, co73, eo73⟩ := Kd.S_slice HO_459001.out
         subst eo73
         go_wp2
         refine bodyPost_ret (results_cell_row rfl _ _ gb450 29 #[.slice Ao70 x459000_2.length co70, .slice Ao73 x459001_2.length co73] (0, 0) _ rfl (by (with_reducible repeat (first | refine blk_drewN ?_ _ | refine blk_drew ?_ | refine blk_alloc ?_ _)); refine blk_put (cs := #[.slice Ao70 x459000_2.length co70, .slice none 0 0]) ?_ 1 _ rfl; (with_reducible repeat (first | refine blk_drewN ?_ _ | refine blk_drew ?_ | refine blk_alloc ?_ _)); refine blk_put (cs := #[.slice none 0 0, .slice none 0 0]) ?_ 0 _ rfl; (with_reducible repeat (first | refine blk_drewN ?_ _ | refine blk_drew ?_ | refine blk_alloc ?_ _)); exact BK450.out) Try.underlying29 rfl (by kernel_rfl)) rfl ?_
         exact ⟨_, _, by first | rfl | (simp [errW_none, errW_some] <;> rfl) | (simp [*, errW_none, errW_some] <;> rfl), by (with_reducible repeat (first | apply Kd.R_alloc | apply Kd.R_drewN | apply Kd.R_drew)); exact Kd.R_mono (Kd.R_far (p := ⟨gb450, 1, none⟩) (Kd.R_far (p := ⟨gb450, 0, none⟩) (Kd.R_types HO_459000.out BK450.out (by decide)) (fun _ hk => hk.2) (.slice Ao70 x459000_2.length co70)) (fun _ hk => hk.2) (.slice Ao73 x459001_2.length co73)) (fun _ hk => hk.1), by (with_reducible repeat (first | apply Kd.S_alloc | apply Kd.S_drewN | apply Kd.S_drew)); exact Kd.S_mono (Kd.S_far (p := ⟨gb450, 1, none⟩) (Kd.S_far (p := ⟨gb450, 0, none⟩) (Kd.S_mono HO_459001.out (fun k_ hk => (⟨hk, hk.2.2.2.1⟩ : _ ∧ k_ ≠ gb450))) (fun _ hk => hk.2) (.slice Ao70 x459000_2.length co70)) (fun _ hk => hk.2) (.slice Ao73 x459001_2.length co73)) (fun _ hk => ⟨hk.1.1, hk.1.2.1⟩), Rgn.bq HB.out⟩

end Go.Proofs.Ytdhjhadcadcceaa.PFnDisk
