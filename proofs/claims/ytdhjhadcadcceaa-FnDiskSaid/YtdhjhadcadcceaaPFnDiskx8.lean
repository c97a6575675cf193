-- written by a program of this session (wip/src/print2.py)
import Derived.Test.YtdhjhadcadcceaaPFnDiskx0
import Derived.Test.YtdhjhadcadcceaaPFnDiskx1
import Derived.Test.YtdhjhadcadcceaaPFnDiskx6
import Derived.Test.YtdhjhadcadcceaaPFnDiskx7
namespace Go.Proofs.Ytdhjhadcadcceaa.PFnDisk
open Go.RowKit Go.Proofs.YtdhjhadcadcceaaW.PrintWords Go.Proofs.YtdhjhadcadcceaaW.PrintLast Go.Proofs.YtdhjhadcadcceaaW.PrintMore
attribute [local go_sem] max2_int min2_int max_two min_two max_three min_three max_four min_four   -- for this text's walks alone
set_option linter.unusedVariables false
set_option linter.unusedSimpArgs false

/-! ### impl_DiskDo: function 45 -/
mutual
def impl_DiskDo.j0 : Nat → List (S93) → Int → Bool → List Int → List (S62) → Option (List Int × (List (S62)))
 | 0, _, _, _, _, _ => none
 | k + 1, x1, x2, x17, x370000, x370001 => if x17 = true then (some (([] : List Int), ([] : List (S62)))) else ((impl_twin.f k x370000 x370001).bind fun bt372 => (impl_DiskDo.l0 k x2 x1 (x1.length : Int) 0 bt372.1 bt372.2))
def impl_DiskDo.l0 : Nat → Int → List (S93) → Int → Int → List Int → List (S62) → Option (List Int × (List (S62)))
 | 0, _, _, _, _, _, _ => none
 | k + 1, x2, x21, x22, x23, x379000, x379001 => if x23 < x22 then (if 0 ≤ x23 then (if x23 < (x21.length : Int) then (if x2 ≥ 0 then (impl_DiskDo.j2 k x2 x21 x22 x23 (decide (x23 ≥ x2)) x379000 x379001 ((rd_T93 x21 x23).f0) ((rd_T93 x21 x23).f1) ((rd_T93 x21 x23).f2)) else (impl_DiskDo.j2 k x2 x21 x22 x23 false x379000 x379001 ((rd_T93 x21 x23).f0) ((rd_T93 x21 x23).f1) ((rd_T93 x21 x23).f2))) else (none)) else (none)) else (some (x379000, x379001))
def impl_DiskDo.j2 : Nat → Int → List (S93) → Int → Int → Bool → List Int → List (S62) → Int → Int → List Int → Option (List Int × (List (S62)))
 | 0, _, _, _, _, _, _, _, _, _, _ => none
 | k + 1, x2, x21, x22, x23, x34, x379000, x379001, x381000, x381001, x381002 => if x34 = true then (some (x379000, x379001)) else ((impl_do.f k x379000 x379001 x381000 x381001 x381002).bind fun bt381 => (if bt381.2.2 = true then (impl_DiskDo.l0 k x2 x21 x22 (wrap64 (x23 + 1)) bt381.1 bt381.2.1) else (some (([] : List Int), ([] : List (S62))))))
end
def impl_DiskDo.f (k : Nat) (l0_0 : List Int) (l0_1 : List (S62)) (l1 : List (S93)) (a2 : Int) : Option (List Int × (List (S62))) := (impl_ValidDisk.f k l0_0 l0_1).bind fun t371 => (if t371 = true then (impl_DiskDo.j0 k l1 a2 (decide ((l1.length : Int) > 4000)) l0_0 l0_1) else (impl_DiskDo.j0 k l1 a2 true l0_0 l0_1))
set_option maxHeartbeats 8000000 in
set_option maxRecDepth 100000 in
theorem impl_DiskDo.calls (k : Nat) (A0_0 : Option Addr) (c0_0 : Nat) (l0_0 : List Int) (A0_1 : Option Addr) (c0_1 : Nat) (l0_1 : List (S62)) (A1 : Option Addr) (c1 : Nat) (l1 : List (S93)) (a2 : Int) (r1 : List Int) (r2 : List (S62)) (w : World) (hr0_0 : Kd.C (Kd.int .u8) w A0_0 l0_0.length l0_0) (hc0_0 : l0_0.length ≤ c0_0) (hr0_1 : Kd.C k62 w A0_1 l0_1.length l0_1) (hc0_1 : l0_1.length ≤ c0_1) (hr1 : Kd.C k93 w A1 l1.length l1) (hc1 : l1.length ≤ c1) (h : impl_DiskDo.f k l0_0 l0_1 l1 a2 = some (r1, r2)) :
  Calls Try.prog 45 #[.agg #[.slice A0_0 l0_0.length c0_0, .slice A0_1 l0_1.length c0_1], .slice A1 l1.length c1, .int .i64 a2] w fun e w' => ∃ v0_ v1_ : Value, e = .returned (.agg #[v0_, v1_]) ∧ Kd.R (Kd.int .u8) 5 w' w.heap.size (fun k_ => (w.heap.size ≤ k_)) v0_ r1 ∧ Kd.S k62 62 w' w.heap.size (fun k_ => (w.heap.size ≤ k_) ∧ some k_ ≠ (v0_ : Value).ownBlock) v1_ r2 ∧ Below w.heap.size w w' := by
 have hu29 := Try.underlying29
 have hu93 := Try.underlying93
 have HR0_0 := Aside0.mk hr0_0
 have HC0_0 := Aside0.mk hc0_0
 clear hr0_0 hc0_0
 have HR0_1 := Aside0.mk hr0_1
 have HC0_1 := Aside0.mk hc0_1
 clear hr0_1 hc0_1
 have HR1 := Aside0.mk hr1
 have HC1 := Aside0.mk hc1
 clear hr1 hc1
 have HB := Aside0.mk (Below.refl w.heap.size w)
 have H : ((impl_ValidDisk.f k l0_0 l0_1).bind fun t371 => (if t371 = true then (impl_DiskDo.j0 k l1 a2 (decide ((l1.length : Int) > 4000)) l0_0 l0_1) else (impl_DiskDo.j0 k l1 a2 true l0_0 l0_1))) = some (r1, r2) := h
 clear h
 have HC4 := Aside0.mk H
 clear H
 go_enter Try.func45, Try.ntmps45
 go_upto_region 1 with (first | ((with_reducible refine gate_dst (N := 3) rfl ?_); (try (refine gate_guard (by rfl) ?_; dsimp only)); refine Rgn.bx 3 #[.slice A0_0 l0_0.length c0_0, .slice A0_1 l0_1.length c0_1] 29 ?_; intro gb369 hg w5 hbox hb; have BK369 := Aside0.mk (hbox); have GW369 := Aside0.mk (Rgn.ge hg HB.out); have GE369 := Aside0.mk (Rgn.ge hg HB.out); replace HB := Aside0.mk (below_step (Rgn.bq HB.out) hb); clear hb hbox hg) | ((with_reducible refine gate_dst (N := 6) rfl ?_); (try (refine gate_guard (by rfl) ?_; dsimp only)); refine Rgn.bx 6 #[.slice none 0 0, .slice none 0 0] 29 ?_; intro gb370 hg w6 hbox hb; have BK370 := Aside0.mk (hbox); have GW370 := Aside0.mk (Rgn.ge hg HB.out); have GE370 := Aside0.mk (Rgn.ge hg HB.out); replace HB := Aside0.mk (below_step (Rgn.bq HB.out) hb); have NB369_370 := Aside0.mk (Rgn.nl hg BK369.out); have NB370_369 := Aside0.mk (Rgn.ng hg BK369.out); replace BK369 := Aside0.mk (Rgn.bb BK369.out hb); clear hb hbox hg))
 (try simp only [Act.put, List.setIfInBounds_toArray, List.set_cons_zero, List.set_cons_succ])
 go_cut [17] (fun v17 wc => ∃ (kq : Nat) (x17_3 : Bool), v17 = .bool x17_3 ∧ Aside0 (impl_DiskDo.j0 kq l1 a2 x17_3 l0_0 l0_1 = some (r1, r2)) ∧ Aside0 (kq ≤ k) ∧ Aside0 (wc.heap[gb369]? = some (.cells #[(.slice A0_0 l0_0.length c0_0), (.slice A0_1 l0_1.length c0_1)] 29 (0, 0))) ∧ Aside0 (wc.heap[gb370]? = some (.cells #[(.slice none 0 0), (.slice none 0 0)] 29 (0, 0))) ∧ Aside0 (Below w.heap.size w wc))
 case first =>
  have H := HC4.out
  clear HC4
  replace H := Option.bind_eq_some_iff.mp H
  obtain ⟨t371, A70, H⟩ := H
  replace H : (if t371 = true then (impl_DiskDo.j0 k l1 a2 (decide ((l1.length : Int) > 4000)) l0_0 l0_1) else (impl_DiskDo.j0 k l1 a2 true l0_0 l0_1)) = some (r1, r2) := H
  have A7 := Aside0.mk A70
  clear A70
  by_cases c8 : t371 = true
  ·
   subst c8
   have H1 : (impl_DiskDo.j0 k l1 a2 (decide ((l1.length : Int) > 4000)) l0_0 l0_1) = some (r1, r2) := by rw [if_pos rfl] at H; exact H
   clear H
   have H := H1
   clear H1
   have H' := Aside0.mk H
   clear H
   have hnb9 := NB369_370.out
   have hnc9 := NB370_369.out
   have hcz10_0 := Rgn.cz0 BK369.out
   have hcz10_1 := Rgn.cz1 BK369.out
   have hfz10_0 := blk_frozen BK369.out 0
   have hfz10_1 := blk_frozen BK369.out 1
   go_wp2_with (first | ((with_reducible refine gate_callee (f := 28) rfl ?_); refine Rgn.gl (some 11) Try.func28 #[.agg #[.slice A0_0 l0_0.length c0_0, .slice A0_1 l0_1.length c0_1]] ?_; (with_reducible refine (impl_ValidDisk.calls k _ _ l0_0 _ _ l0_1 true _ ?side1 ?side2 ?side3 ?side4 A7.out).mono ?_); (case side1 => exact Rgn.cq (Kd.C_below HR0_0.out HB.out)); (case side2 => exact HC0_0.out); (case side3 => exact Rgn.cq (Kd.C_below HR0_1.out HB.out)); (case side4 => exact HC0_1.out); rintro e w11 ⟨rfl, hb⟩; refine ⟨_, rfl, ?_⟩; replace BK369 := Aside0.mk (Rgn.bb BK369.out hb); replace BK370 := Aside0.mk (Rgn.bb BK370.out hb); replace HB := Aside0.mk (below_step (Rgn.bq HB.out) hb); (try clear hb)))
   go_meet
   case rel => exact ⟨_, (decide ((l1.length : Int) > 4000)), (by first | rfl | (simp; done) | (simp [*]; done)), H', ⟨by first | omega | exact Nat.le_refl _⟩, ⟨Rgn.kb BK369.out⟩, ⟨Rgn.kb BK370.out⟩, ⟨Rgn.bq HB.out⟩⟩
  ·
   replace c8 := Bool.eq_false_iff.mpr c8
   subst c8
   have H1 : (impl_DiskDo.j0 k l1 a2 true l0_0 l0_1) = some (r1, r2) := by rw [if_neg (show ¬ (false = true) by decide)] at H; exact H
   clear H
   have H := H1
   clear H1
   have H' := Aside0.mk H
   clear H
   have hnb12 := NB369_370.out
   have hnc12 := NB370_369.out
   have hcz13_0 := Rgn.cz0 BK369.out
   have hcz13_1 := Rgn.cz1 BK369.out
   have hfz13_0 := blk_frozen BK369.out 0
   have hfz13_1 := blk_frozen BK369.out 1
   go_wp2_with (first | ((with_reducible refine gate_callee (f := 28) rfl ?_); refine Rgn.gl (some 11) Try.func28 #[.agg #[.slice A0_0 l0_0.length c0_0, .slice A0_1 l0_1.length c0_1]] ?_; (with_reducible refine (impl_ValidDisk.calls k _ _ l0_0 _ _ l0_1 false _ ?side1 ?side2 ?side3 ?side4 A7.out).mono ?_); (case side1 => exact Rgn.cq (Kd.C_below HR0_0.out HB.out)); (case side2 => exact HC0_0.out); (case side3 => exact Rgn.cq (Kd.C_below HR0_1.out HB.out)); (case side4 => exact HC0_1.out); rintro e w14 ⟨rfl, hb⟩; refine ⟨_, rfl, ?_⟩; replace BK369 := Aside0.mk (Rgn.bb BK369.out hb); replace BK370 := Aside0.mk (Rgn.bb BK370.out hb); replace HB := Aside0.mk (below_step (Rgn.bq HB.out) hb); (try clear hb)))
   go_meet
   case rel => exact ⟨_, (true), (by first | rfl | (simp; done) | (simp [*]; done)), H', ⟨by first | omega | exact Nat.le_refl _⟩, ⟨Rgn.kb BK369.out⟩, ⟨Rgn.kb BK370.out⟩, ⟨Rgn.bq HB.out⟩⟩
 case rest =>
  clear HC4
  try clear c1
  try clear c2
  try clear p2
  try clear c4
  try clear c8
  try clear c9
  try clear c12
  try clear hcz10_0 hcz10_1
  try clear hcz13_0 hcz13_1
  try clear hfz10_0 hfz10_1
  try clear hfz13_0 hfz13_1
  obtain ⟨kq, x17_3, rfl, HA, HJ3, BK369, BK370, HB⟩ := hcut
  cases kq with
  | zero => exact absurd HA.out (by simp [impl_DiskDo.j0])
  | succ kj3 =>
   have H := HA.out
   clear HA
   simp only [impl_DiskDo.j0] at H
   by_cases c15 : x17_3 = true
   ·
    subst c15
    have H1 : (some (([] : List Int), ([] : List (S62)))) = some (r1, r2) := by rw [if_pos rfl] at H; exact H
    clear H
    have H := H1
    clear H1
    simp only [Option.some.injEq, Prod.mk.injEq] at H
    obtain ⟨rfl, rfl⟩ := H
    have hnb16 := NB370_369.out
    have hnc16 := NB369_370.out
    have hcz17_0 := Rgn.cz0 BK370.out
    have hcz17_1 := Rgn.cz1 BK370.out
    have hfz17_0 := blk_frozen BK370.out 0
    have hfz17_1 := blk_frozen BK370.out 1
    go_wp2
    refine bodyPost_ret (results_cell_row rfl _ _ gb370 29 #[.slice none 0 0, .slice none 0 0] (0, 0) _ rfl (by (with_reducible repeat (first | refine blk_drewN ?_ _ | refine blk_drew ?_ | refine blk_alloc ?_ _)); refine blk_put (cs := #[.slice none 0 0, .slice none 0 0]) ?_ 1 _ rfl; (with_reducible repeat (first | refine blk_drewN ?_ _ | refine blk_drew ?_ | refine blk_alloc ?_ _)); refine blk_put (cs := #[.slice none 0 0, .slice none 0 0]) ?_ 0 _ rfl; (with_reducible repeat (first | refine blk_drewN ?_ _ | refine blk_drew ?_ | refine blk_alloc ?_ _)); exact BK370.out) Try.underlying29 rfl (by kernel_rfl)) rfl ?_
    exact ⟨_, _, by first | rfl | (simp [errW_none, errW_some] <;> rfl) | (simp [*, errW_none, errW_some] <;> rfl), by first | exact Kd.R_nil _ _ _ _ _ | exact Kd.N_nil _ _ _ _ _ | exact Kd.V_nil _ _ _ _ _ | exact Kd.Q_nil _ _ _ _ _ | exact Kd.S_nil _ _ _ _ _, (by first | exact Kd.S_nil _ _ _ _ _ | exact Kd.N_nil _ _ _ _ _ | exact Kd.V_nil _ _ _ _ _ | exact Kd.Q_nil _ _ _ _ _ | exact Kd.R_nil _ _ _ _ _), Rgn.bq HB.out⟩
   ·
    replace c15 := Bool.eq_false_iff.mpr c15
    subst c15
    have H1 : ((impl_twin.f kj3 l0_0 l0_1).bind fun bt372 => (impl_DiskDo.l0 kj3 a2 l1 (l1.length : Int) 0 bt372.1 bt372.2)) = some (r1, r2) := by rw [if_neg (show ¬ (false = true) by decide)] at H; exact H
    clear H
    have H := H1
    clear H1
    replace H := Option.bind_eq_some_iff.mp H
    obtain ⟨⟨t372, t375⟩, A180, H⟩ := H
    replace H : (impl_DiskDo.l0 kj3 a2 l1 (l1.length : Int) 0 t372 t375) = some (r1, r2) := H
    have A18 := Aside0.mk A180
    clear A180
    have H' := Aside0.mk H
    clear H
    have hnb19 := NB369_370.out
    have hnc19 := NB370_369.out
    have hcz20_0 := Rgn.cz0 BK369.out
    have hcz20_1 := Rgn.cz1 BK369.out
    have hfz20_0 := blk_frozen BK369.out 0
    have hfz20_1 := blk_frozen BK369.out 1
    go_wp2_with (first | ((with_reducible refine gate_callee (f := 79) rfl ?_); refine Rgn.gl (some 20) Try.func79 #[.agg #[.slice A0_0 l0_0.length c0_0, .slice A0_1 l0_1.length c0_1]] ?_; (with_reducible refine (impl_twin.calls kj3 _ _ l0_0 _ _ l0_1 t372 t375 _ ?side1 ?side2 ?side3 ?side4 A18.out).mono ?_); (case side1 => exact Rgn.cq (Kd.C_below HR0_0.out HB.out)); (case side2 => exact HC0_0.out); (case side3 => exact Rgn.cq (Kd.C_below HR0_1.out HB.out)); (case side4 => exact HC0_1.out); rintro e w21 ⟨v373, v376, rfl, ho0, ho1, hb⟩; refine ⟨_, rfl, ?_⟩; have HO374 := Aside0.mk (Kd.R_lower (Kd.R_newM (M := fun k_ => (w.heap.size ≤ k_)) ho0 (below_size (Rgn.bq HB.out)) (fun k_ h_ => h_)) (below_size (Rgn.bq HB.out))); have HO377 := Aside0.mk (Kd.S_lower (Kd.S_newM (M := fun k_ => (w.heap.size ≤ k_)) ho1 (below_size (Rgn.bq HB.out)) (fun k_ h_ => h_)) (below_size (Rgn.bq HB.out))); replace BK369 := Aside0.mk (Rgn.bb BK369.out hb); replace BK370 := Aside0.mk (Rgn.bb BK370.out hb); replace HB := Aside0.mk (below_step (Rgn.bq HB.out) hb); (try clear hb); (try clear ho0); (try clear ho1)) | ((with_reducible refine gate_dst (N := 7) rfl ?_); (try (refine gate_guard (by rfl) ?_; dsimp only)); refine Rgn.bx 7 #[.slice none 0 0, .slice none 0 0] 29 ?_; intro gb378 hg w22 hbox hb; replace HO374 := Aside0.mk (Kd.R_below (Rgn.rq HO374.out) hb); replace HO377 := Aside0.mk (Kd.S_below (Rgn.sq HO377.out) hb); have BK378 := Aside0.mk (hbox); have GW378 := Aside0.mk (Rgn.ge hg HB.out); have GE378 := Aside0.mk (Rgn.ge hg HB.out); replace HB := Aside0.mk (below_step (Rgn.bq HB.out) hb); have NB369_378 := Aside0.mk (Rgn.nl hg BK369.out); have NB378_369 := Aside0.mk (Rgn.ng hg BK369.out); replace BK369 := Aside0.mk (Rgn.bb BK369.out hb); have NB370_378 := Aside0.mk (Rgn.nl hg BK370.out); have NB378_370 := Aside0.mk (Rgn.ng hg BK370.out); replace BK370 := Aside0.mk (Rgn.bb BK370.out hb); clear hb hbox hg; obtain ⟨Ao23, co23, eo23⟩ := Kd.R_slice HO374.out; subst eo23; have hnb24 := NB378_369.out; have hnc24 := NB369_378.out; have hnb25 := NB378_370.out; have hnc25 := NB370_378.out; obtain ⟨hcz26_0, hcz26_1, hfz26_0, hfz26_1⟩ := Rgn.c2 BK378.out; obtain ⟨Ao27, co27, eo27⟩ := Kd.S_slice HO377.out; subst eo27))
    go_loopg [23] kj3 (fun kq v23 w' => ∃ (x23_2 : Int) (x379000_2 : List Int) (x379001_2 : List (S62)) (u379000 : Value) (u379001 : Value), v23 = .int .i64 x23_2 ∧ Aside0 (impl_DiskDo.l0 kq a2 l1 (l1.length : Int) x23_2 x379000_2 x379001_2 = some (r1, r2)) ∧ Aside0 (kq ≤ kj3) ∧ Aside0 (Kd.R (Kd.int .u8) 5 w' w.heap.size (fun k_ => (w.heap.size ≤ k_)) u379000 x379000_2) ∧ Aside0 (Kd.S k62 62 w' w.heap.size (fun k_ => (w.heap.size ≤ k_) ∧ some k_ ≠ (u379000 : Value).ownBlock ∧ k_ ≠ gb369 ∧ k_ ≠ gb370 ∧ k_ ≠ gb378) u379001 x379001_2) ∧ Aside0 (w'.heap[gb369]? = some (.cells #[(.slice A0_0 l0_0.length c0_0), (.slice A0_1 l0_1.length c0_1)] 29 (0, 0))) ∧ Aside0 (w'.heap[gb370]? = some (.cells #[(.slice none 0 0), (.slice none 0 0)] 29 (0, 0))) ∧ Aside0 (w'.heap[gb378]? = some (.cells #[u379000, u379001] 29 (0, 0))) ∧ Aside0 (Below w.heap.size w w'))
    case atStart => exact ⟨(0), (t372), (t375), (.slice Ao23 t372.length co23), (.slice Ao27 t375.length co27), (by first | rfl | (simp; done) | (simp [*]; done)), H', ⟨Nat.le_refl _⟩, ⟨by (with_reducible repeat (first | apply Kd.R_alloc | apply Kd.R_drewN | apply Kd.R_drew)); exact Kd.R_mono (Kd.R_far (p := ⟨gb378, 1, none⟩) (Kd.R_far (p := ⟨gb378, 0, none⟩) (Kd.R_types HO374.out BK378.out (by decide)) (fun _ hk => hk.2) (.slice Ao23 t372.length co23)) (fun _ hk => hk.2) (.slice Ao27 t375.length co27)) (fun _ hk => hk.1.1)⟩, ⟨(Rgn.sq (Kd.S_mono (Kd.S_far (p := ⟨gb378, 1, none⟩) (Kd.S_far (p := ⟨gb378, 0, none⟩) (Kd.S_types (Kd.S_types (Kd.S_types (Kd.S_types HO377.out BK369.out (by decide)) BK370.out (by decide)) BK378.out (by decide)) BK378.out (by decide)) (fun _ hk => hk.2) (.slice Ao23 t372.length co23)) (fun _ hk => hk.2) (.slice Ao27 t375.length co27)) (fun _ hk => ⟨hk.1.1.1.1.1, ⟨hk.1.1.1.1.2, ⟨hk.1.1.1.2, ⟨hk.1.1.2, hk.1.2⟩⟩⟩⟩)))⟩, ⟨Rgn.kf BK369.out⟩, ⟨Rgn.kf BK370.out⟩, ⟨by (with_reducible repeat (first | refine blk_drewN ?_ _ | refine blk_drew ?_ | refine blk_alloc ?_ _)); refine blk_put (cs := #[.slice Ao23 t372.length co23, .slice none 0 0]) ?_ 1 _ rfl; (with_reducible repeat (first | refine blk_drewN ?_ _ | refine blk_drew ?_ | refine blk_alloc ?_ _)); refine blk_put (cs := #[.slice none 0 0, .slice none 0 0]) ?_ 0 _ rfl; (with_reducible repeat (first | refine blk_drewN ?_ _ | refine blk_drew ?_ | refine blk_alloc ?_ _)); exact BK378.out⟩, ⟨Rgn.bq HB.out⟩⟩
    case round =>
     clear H'
     try clear c1
     try clear c2
     try clear p2
     try clear c4
     try clear c7
     try clear c8
     try clear c9
     try clear c12
     try clear c15
     try clear c16
     try clear c19
     try clear c24
     try clear c25
     try clear hcz10_0 hcz10_1
     try clear hcz13_0 hcz13_1
     try clear hcz17_0 hcz17_1
     try clear hcz20_0 hcz20_1
     try clear hcz26_0 hcz26_1
     try clear hfz10_0 hfz10_1
     try clear hfz13_0 hfz13_1
     try clear hfz17_0 hfz17_1
     try clear hfz20_0 hfz20_1
     try clear hfz26_0 hfz26_1
     try clear p2
     obtain ⟨x23_2, x379000_2, x379001_2, u379000, u379001, rfl, HA, HK2, HO_379000, HO_379001, BK369, BK370, BK378, HB⟩ := hrel
     cases gk with
     | zero => exact absurd HA.out (by simp [impl_DiskDo.l0])
     | succ k2 =>
      have H := HA.out
      clear HA
      simp only [impl_DiskDo.l0] at H
      by_cases c28 : x23_2 < (l1.length : Int)
      ·
       rw [if_pos c28] at H
       have c28b0 : decide (x23_2 < (l1.length : Int)) = true := decide_eq_true c28
       clear c28
       by_cases c29 : 0 ≤ x23_2
       ·
        rw [if_pos c29] at H
        have c29b0 : decide (0 ≤ x23_2) = true := decide_eq_true c29
        clear c29
        by_cases c30 : x23_2 < (l1.length : Int)
        ·
         rw [if_pos c30] at H
         have c30b0 : decide (x23_2 < (l1.length : Int)) = true := decide_eq_true c30
         clear c30
         have HC31 := Aside0.mk H
         clear H
         have p379 : 0 ≤ (x23_2 : Int) := of_decide_eq_true (by first | (with_reducible assumption) | assumption)
         have q379 : x23_2 < (l1.length : Int) := of_decide_eq_true (by first | (with_reducible assumption) | assumption)
         obtain ⟨ad379, A379_2, c379_2, e379, hx379_0, hx379_1, hx379_2, hl379_2, hi379_2⟩ := at_T93 HR1.out x23_2 p379 q379
         cases e379
         replace hx379_0 := Rgn.hx HB.out hx379_0
         replace hx379_1 := Rgn.hx HB.out hx379_1
         replace hx379_2 := Rgn.hx HB.out hx379_2
         have HR379_2 := Aside0.mk hi379_2
         have HC379_2 := Aside0.mk hl379_2
         clear hi379_2 hl379_2
         replace p379 := eq_true p379
         replace q379 := eq_true q379
         go_upto_region 7 with (first | ((with_reducible refine gate_dst (N := 9) rfl ?_); (try (refine gate_guard (by rfl) ?_; dsimp only)); refine Rgn.bx 9 #[.int .i64 0, .int .i64 0, .slice none 0 0] 93 ?_; intro gb380 hg w32 hbox hb; replace HO_379000 := Aside0.mk (Kd.R_below (Rgn.rq HO_379000.out) hb); replace HO_379001 := Aside0.mk (Kd.S_below (Kd.S_elderB (Rgn.sq HO_379001.out) gb380 (Nat.le_of_eq hg.symm)) hb); have BK380 := Aside0.mk (hbox); have GW380 := Aside0.mk (Rgn.ge hg HB.out); have GE380 := Aside0.mk (Rgn.ge hg HB.out); replace HB := Aside0.mk (below_step (Rgn.bq HB.out) hb); have NB369_380 := Aside0.mk (Rgn.nl hg BK369.out); have NB380_369 := Aside0.mk (Rgn.ng hg BK369.out); replace BK369 := Aside0.mk (Rgn.bb BK369.out hb); have NB370_380 := Aside0.mk (Rgn.nl hg BK370.out); have NB380_370 := Aside0.mk (Rgn.ng hg BK370.out); replace BK370 := Aside0.mk (Rgn.bb BK370.out hb); have NB378_380 := Aside0.mk (Rgn.nl hg BK378.out); have NB380_378 := Aside0.mk (Rgn.ng hg BK378.out); replace BK378 := Aside0.mk (Rgn.bb BK378.out hb); clear hb hbox hg; have hnb33 := NB380_369.out; have hnc33 := NB369_380.out; have hnb34 := NB380_370.out; have hnc34 := NB370_380.out; have hnb35 := NB380_378.out; have hnc35 := NB378_380.out; obtain ⟨hcz36_0, hcz36_1, hcz36_2, hfz36_0, hfz36_1, hfz36_2⟩ := Rgn.c3 BK380.out))
         (try simp only [Act.put, List.setIfInBounds_toArray, List.set_cons_zero, List.set_cons_succ])
         go_cut [34] (fun v34 wc => ∃ (kq : Nat) (x34_30 : Bool), v34 = .bool x34_30 ∧ Aside0 (impl_DiskDo.j2 kq a2 l1 (l1.length : Int) x23_2 x34_30 x379000_2 x379001_2 ((rd_T93 l1 x23_2).f0) ((rd_T93 l1 x23_2).f1) ((rd_T93 l1 x23_2).f2) = some (r1, r2)) ∧ Aside0 (kq ≤ k2) ∧ Aside0 (Kd.R (Kd.int .u8) 5 wc w.heap.size (fun k_ => (w.heap.size ≤ k_)) u379000 x379000_2) ∧ Aside0 (Kd.S k62 62 wc w.heap.size (fun k_ => (w.heap.size ≤ k_) ∧ some k_ ≠ (u379000 : Value).ownBlock ∧ k_ ≠ gb369 ∧ k_ ≠ gb370 ∧ k_ ≠ gb378 ∧ k_ ≠ gb380) u379001 x379001_2) ∧ Aside0 (wc.heap[gb369]? = some (.cells #[(.slice A0_0 l0_0.length c0_0), (.slice A0_1 l0_1.length c0_1)] 29 (0, 0))) ∧ Aside0 (wc.heap[gb370]? = some (.cells #[(.slice none 0 0), (.slice none 0 0)] 29 (0, 0))) ∧ Aside0 (wc.heap[gb378]? = some (.cells #[u379000, u379001] 29 (0, 0))) ∧ Aside0 (wc.heap[gb380]? = some (.cells #[.int .i64 ((rd_T93 l1 x23_2).f0), .int .i64 ((rd_T93 l1 x23_2).f1), (.slice A379_2 ((rd_T93 l1 x23_2).f2).length c379_2)] 93 (0, 0))) ∧ Aside0 (Below w.heap.size w wc))
         case first =>
          have H := HC31.out
          clear HC31
          by_cases c37 : a2 ≥ 0
          ·
           rw [if_pos c37] at H
           have c37b0 : decide (0 ≤ a2) = true := decide_eq_true c37
           clear c37
           (first | rw [c37b0] | (simp only [i64_w, i32_w]; rw [c37b0]) | skip)
           have H' := Aside0.mk H
           clear H
           go_wp2
           go_meet
           case rel => exact ⟨_, (decide (x23_2 ≥ a2)), (by first | rfl | (simp; done) | (simp [*]; done)), H', ⟨by have := HJ3.out; have := HK2.out; first | omega | exact Nat.le_refl _⟩, ⟨by (with_reducible repeat (first | apply Kd.R_alloc | apply Kd.R_drewN | apply Kd.R_drew)); exact Kd.R_mono (Kd.R_far (p := ⟨gb380, 2, none⟩) (Kd.R_far (p := ⟨gb380, 1, none⟩) (Kd.R_far (p := ⟨gb380, 0, none⟩) (Kd.R_types HO_379000.out BK380.out (by decide)) (fun _ hk => hk.2) (.int .i64 ((rd_T93 l1 x23_2).f0))) (fun _ hk => hk.2) (.int .i64 ((rd_T93 l1 x23_2).f1))) (fun _ hk => hk.2) (.slice A379_2 ((rd_T93 l1 x23_2).f2).length c379_2)) (fun _ hk => hk.1)⟩, ⟨by (with_reducible repeat (first | apply Kd.S_alloc | apply Kd.S_drewN | apply Kd.S_drew)); exact Kd.S_mono (Kd.S_far (p := ⟨gb380, 2, none⟩) (Kd.S_far (p := ⟨gb380, 1, none⟩) (Kd.S_far (p := ⟨gb380, 0, none⟩) (Kd.S_mono HO_379001.out (fun k_ hk => (⟨hk, hk.2⟩ : _ ∧ k_ ≠ gb380))) (fun _ hk => hk.2) (.int .i64 ((rd_T93 l1 x23_2).f0))) (fun _ hk => hk.2) (.int .i64 ((rd_T93 l1 x23_2).f1))) (fun _ hk => hk.2) (.slice A379_2 ((rd_T93 l1 x23_2).f2).length c379_2)) (fun _ hk => ⟨hk.1.1.1, ⟨hk.1.1.2.1, ⟨hk.1.1.2.2.1, ⟨hk.1.1.2.2.2.1, ⟨hk.1.1.2.2.2.2, hk.1.2⟩⟩⟩⟩⟩)⟩, ⟨Rgn.kf BK369.out⟩, ⟨Rgn.kf BK370.out⟩, ⟨Rgn.kf BK378.out⟩, ⟨by (with_reducible repeat (first | refine blk_drewN ?_ _ | refine blk_drew ?_ | refine blk_alloc ?_ _)); refine blk_put (cs := #[.int .i64 ((rd_T93 l1 x23_2).f0), .int .i64 ((rd_T93 l1 x23_2).f1), .slice none 0 0]) ?_ 2 _ rfl; (with_reducible repeat (first | refine blk_drewN ?_ _ | refine blk_drew ?_ | refine blk_alloc ?_ _)); refine blk_put (cs := #[.int .i64 ((rd_T93 l1 x23_2).f0), .int .i64 0, .slice none 0 0]) ?_ 1 _ rfl; (with_reducible repeat (first | refine blk_drewN ?_ _ | refine blk_drew ?_ | refine blk_alloc ?_ _)); refine blk_put (cs := #[.int .i64 0, .int .i64 0, .slice none 0 0]) ?_ 0 _ rfl; (with_reducible repeat (first | refine blk_drewN ?_ _ | refine blk_drew ?_ | refine blk_alloc ?_ _)); exact BK380.out⟩, ⟨Rgn.bq HB.out⟩⟩
          ·
           rw [if_neg c37] at H
           have c37b0 : decide (0 ≤ a2) = false := decide_eq_false c37
           clear c37
           (first | rw [c37b0] | (simp only [i64_w, i32_w]; rw [c37b0]) | skip)
           have H' := Aside0.mk H
           clear H
           go_wp2
           go_meet
           case rel => exact ⟨_, (false), (by first | rfl | (simp; done) | (simp [*]; done)), H', ⟨by have := HJ3.out; have := HK2.out; first | omega | exact Nat.le_refl _⟩, ⟨by (with_reducible repeat (first | apply Kd.R_alloc | apply Kd.R_drewN | apply Kd.R_drew)); exact Kd.R_mono (Kd.R_far (p := ⟨gb380, 2, none⟩) (Kd.R_far (p := ⟨gb380, 1, none⟩) (Kd.R_far (p := ⟨gb380, 0, none⟩) (Kd.R_types HO_379000.out BK380.out (by decide)) (fun _ hk => hk.2) (.int .i64 ((rd_T93 l1 x23_2).f0))) (fun _ hk => hk.2) (.int .i64 ((rd_T93 l1 x23_2).f1))) (fun _ hk => hk.2) (.slice A379_2 ((rd_T93 l1 x23_2).f2).length c379_2)) (fun _ hk => hk.1)⟩, ⟨by (with_reducible repeat (first | apply Kd.S_alloc | apply Kd.S_drewN | apply Kd.S_drew)); exact Kd.S_mono (Kd.S_far (p := ⟨gb380, 2, none⟩) (Kd.S_far (p := ⟨gb380, 1, none⟩) (Kd.S_far (p := ⟨gb380, 0, none⟩) (Kd.S_mono HO_379001.out (fun k_ hk => (⟨hk, hk.2⟩ : _ ∧ k_ ≠ gb380))) (fun _ hk => hk.2) (.int .i64 ((rd_T93 l1 x23_2).f0))) (fun _ hk => hk.2) (.int .i64 ((rd_T93 l1 x23_2).f1))) (fun _ hk => hk.2) (.slice A379_2 ((rd_T93 l1 x23_2).f2).length c379_2)) (fun _ hk => ⟨hk.1.1.1, ⟨hk.1.1.2.1, ⟨hk.1.1.2.2.1, ⟨hk.1.1.2.2.2.1, ⟨hk.1.1.2.2.2.2, hk.1.2⟩⟩⟩⟩⟩)⟩, ⟨Rgn.kf BK369.out⟩, ⟨Rgn.kf BK370.out⟩, ⟨Rgn.kf BK378.out⟩, ⟨by (with_reducible repeat (first | refine blk_drewN ?_ _ | refine blk_drew ?_ | refine blk_alloc ?_ _)); refine blk_put (cs := #[.int .i64 ((rd_T93 l1 x23_2).f0), .int .i64 ((rd_T93 l1 x23_2).f1), .slice none 0 0]) ?_ 2 _ rfl; (with_reducible repeat (first | refine blk_drewN ?_ _ | refine blk_drew ?_ | refine blk_alloc ?_ _)); refine blk_put (cs := #[.int .i64 ((rd_T93 l1 x23_2).f0), .int .i64 0, .slice none 0 0]) ?_ 1 _ rfl; (with_reducible repeat (first | refine blk_drewN ?_ _ | refine blk_drew ?_ | refine blk_alloc ?_ _)); refine blk_put (cs := #[.int .i64 0, .int .i64 0, .slice none 0 0]) ?_ 0 _ rfl; (with_reducible repeat (first | refine blk_drewN ?_ _ | refine blk_drew ?_ | refine blk_alloc ?_ _)); exact BK380.out⟩, ⟨Rgn.bq HB.out⟩⟩
         case rest =>
          clear HC31
          try clear c1
          try clear c2
          try clear p2
          try clear c3
          try clear p3
          try clear q3
          try clear hx3
          try clear c4
          try clear c7
          try clear c8
          try clear c9
          try clear c12
          try clear c15
          try clear c16
          try clear c19
          try clear c24
          try clear c25
          try clear c28
          try clear c28b0
          try clear c29
          try clear c29b0
          try clear c30
          try clear c30b0
          try clear c33
          try clear c34
          try clear c35
          try clear c37
          try clear c37b0
          try clear p37
          try clear q37
          try clear hx37
          try clear hcz10_0 hcz10_1
          try clear hcz13_0 hcz13_1
          try clear hcz17_0 hcz17_1
          try clear hcz20_0 hcz20_1
          try clear hcz26_0 hcz26_1
          try clear hcz36_0 hcz36_1 hcz36_2
          try clear hfz10_0 hfz10_1
          try clear hfz13_0 hfz13_1
          try clear hfz17_0 hfz17_1
          try clear hfz20_0 hfz20_1
          try clear hfz26_0 hfz26_1
          try clear hfz36_0 hfz36_1 hfz36_2
          try clear hx379_0
          try clear hx379_1
          try clear hx379_2
          try clear p2
          try clear p379
          try clear q379
          obtain ⟨kq, x34_30, rfl, HA, HJ30, HO_379000, HO_379001, BK369, BK370, BK378, BK380, HB⟩ := hcut
          cases kq with
          | zero => exact absurd HA.out (by simp [impl_DiskDo.j2])
          | succ kj30 =>
           have H := HA.out
           clear HA
           simp only [impl_DiskDo.j2] at H
           by_cases c38 : x34_30 = true
           ·
            subst c38
            have H1 : (some (x379000_2, x379001_2)) = some (r1, r2) := by rw [if_pos rfl] at H; exact H
            clear H
            have H := H1
            clear H1
            simp only [Option.some.injEq, Prod.mk.injEq] at H
            obtain ⟨rfl, rfl⟩ := H
            have hnb39 := NB378_369.out
            have hnc39 := NB369_378.out
            have hnb40 := NB378_370.out
            have hnc40 := NB370_378.out
            have hnb41 := NB378_380.out
            have hnc41 := NB380_378.out
            have hcz42_0 := Rgn.cz0 BK378.out
            have hcz42_1 := Rgn.cz1 BK378.out
            have hfz42_0 := blk_frozen BK378.out 0
            have hfz42_1 := blk_frozen BK378.out 1
            obtain ⟨Ao43, co43, eo43⟩ := Kd.R_slice HO_379000.out
            subst eo43
            have hnb44 := NB370_369.out
            have hnc44 := NB369_370.out
            have hnb45 := NB370_380.out
            have hnc45 := NB380_370.out
            have hcz46_0 := Rgn.cz0 BK370.out
            have hcz46_1 := Rgn.cz1 BK370.out
            have hfz46_0 := blk_frozen BK370.out 0
            have hfz46_1 := blk_frozen BK370.out 1
            obtain ⟨Ao47, co47, eo47⟩ := Kd.S_slice HO_379001.out
            subst eo47
            go_wp2
            refine bodyPost_ret (results_cell_row rfl _ _ gb370 29 #[.slice Ao43 x379000_2.length co43, .slice Ao47 x379001_2.length co47] (0, 0) _ rfl (by (with_reducible repeat (first | refine blk_drewN ?_ _ | refine blk_drew ?_ | refine blk_alloc ?_ _)); refine blk_put (cs := #[.slice Ao43 x379000_2.length co43, .slice none 0 0]) ?_ 1 _ rfl; (with_reducible repeat (first | refine blk_drewN ?_ _ | refine blk_drew ?_ | refine blk_alloc ?_ _)); refine blk_put (cs := #[.slice none 0 0, .slice none 0 0]) ?_ 0 _ rfl; (with_reducible repeat (first | refine blk_drewN ?_ _ | refine blk_drew ?_ | refine blk_alloc ?_ _)); exact BK370.out) Try.underlying29 rfl (by kernel_rfl)) rfl ?_
            exact ⟨_, _, by first | rfl | (simp [errW_none, errW_some] <;> rfl) | (simp [*, errW_none, errW_some] <;> rfl), by (with_reducible repeat (first | apply Kd.R_alloc | apply Kd.R_drewN | apply Kd.R_drew)); exact Kd.R_mono (Kd.R_far (p := ⟨gb370, 1, none⟩) (Kd.R_far (p := ⟨gb370, 0, none⟩) (Kd.R_types HO_379000.out BK370.out (by decide)) (fun _ hk => hk.2) (.slice Ao43 x379000_2.length co43)) (fun _ hk => hk.2) (.slice Ao47 x379001_2.length co47)) (fun _ hk => hk.1), by (with_reducible repeat (first | apply Kd.S_alloc | apply Kd.S_drewN | apply Kd.S_drew)); exact Kd.S_mono (Kd.S_far (p := ⟨gb370, 1, none⟩) (Kd.S_far (p := ⟨gb370, 0, none⟩) (Kd.S_mono HO_379001.out (fun k_ hk => (⟨hk, hk.2.2.2.1⟩ : _ ∧ k_ ≠ gb370))) (fun _ hk => hk.2) (.slice Ao43 x379000_2.length co43)) (fun _ hk => hk.2) (.slice Ao47 x379001_2.length co47)) (fun _ hk => ⟨hk.1.1, hk.1.2.1⟩), Rgn.bq HB.out⟩
           ·
            replace c38 := Bool.eq_false_iff.mpr c38
            subst c38
            have H1 : ((impl_do.f kj30 x379000_2 x379001_2 ((rd_T93 l1 x23_2).f0) ((rd_T93 l1 x23_2).f1) ((rd_T93 l1 x23_2).f2)).bind fun bt381 => (if bt381.2.2 = true then (impl_DiskDo.l0 kj30 a2 l1 (l1.length : Int) (wrap64 (x23_2 + 1)) bt381.1 bt381.2.1) else (some (([] : List Int), ([] : List (S62)))))) = some (r1, r2) := by rw [if_neg (show ¬ (false = true) by decide)] at H; exact H
            clear H
            have H := H1
            clear H1
            replace H := Option.bind_eq_some_iff.mp H
            obtain ⟨⟨t381, t384, t387⟩, A480, H⟩ := H
            replace H : (if t387 = true then (impl_DiskDo.l0 kj30 a2 l1 (l1.length : Int) (wrap64 (x23_2 + 1)) t381 t384) else (some (([] : List Int), ([] : List (S62))))) = some (r1, r2) := H
            have A48 := Aside0.mk A480
            clear A480
            by_cases c49 : t387 = true
            ·
             subst c49
             have H1 : (impl_DiskDo.l0 kj30 a2 l1 (l1.length : Int) (wrap64 (x23_2 + 1)) t381 t384) = some (r1, r2) := by rw [if_pos rfl] at H; exact H
             clear H
             have H := H1
             clear H1
             have H' := Aside0.mk H
             clear H
             have hnb50 := NB380_369.out
             have hnc50 := NB369_380.out
             have hnb51 := NB380_370.out
             have hnc51 := NB370_380.out
             have hnb52 := NB380_378.out
             have hnc52 := NB378_380.out
             have hcz53_0 := Rgn.cz0 BK380.out
             have hcz53_1 := Rgn.cz1 BK380.out
             have hcz53_2 := Rgn.cz2 BK380.out
             have hfz53_0 := blk_frozen BK380.out 0
             have hfz53_1 := blk_frozen BK380.out 1
             have hfz53_2 := blk_frozen BK380.out 2
             have hnb54 := NB378_369.out
             have hnc54 := NB369_378.out
             have hnb55 := NB378_370.out
             have hnc55 := NB370_378.out
             have hcz56_0 := Rgn.cz0 BK378.out
             have hcz56_1 := Rgn.cz1 BK378.out
             have hfz56_0 := blk_frozen BK378.out 0
             have hfz56_1 := blk_frozen BK378.out 1
             obtain ⟨Ao57, co57, eo57⟩ := Kd.R_slice HO_379000.out
             subst eo57
             obtain ⟨Ao58, co58, eo58⟩ := Kd.S_slice HO_379001.out
             subst eo58
             go_wp2_with (first | ((with_reducible refine gate_callee (f := 85) rfl ?_); refine Rgn.gl (some 36) Try.func85 #[.pointer (some ⟨gb378, 0, none⟩), .agg #[.int .i64 ((rd_T93 l1 x23_2).f0), .int .i64 ((rd_T93 l1 x23_2).f1), .slice A379_2 ((rd_T93 l1 x23_2).f2).length c379_2]] ?_; (with_reducible refine (impl_do.calls kj30 gb378 (fun k_ => some k_ = (.slice Ao57 x379000_2.length co57 : Value).ownBlock) (.slice Ao57 x379000_2.length co57) x379000_2 (fun k_ => ((w.heap.size ≤ k_) ∧ (some k_ ≠ (.slice Ao57 x379000_2.length co57 : Value).ownBlock ∧ (k_ ≠ gb369 ∧ (k_ ≠ gb370 ∧ (k_ ≠ gb378 ∧ k_ ≠ gb380)))))) Ao58 co58 x379001_2 ((rd_T93 l1 x23_2).f0) ((rd_T93 l1 x23_2).f1) _ _ ((rd_T93 l1 x23_2).f2) t381 t384 true w _ ?side1 ?sg1 ?sg2 ?side2 ?side3 ?side4 ?side5 A48.out).mono ?_); (case side1 => exact Rgn.bq HB.out); (case sg1 => exact GE378.out); (case sg2 => exact Rgn.kb BK378.out); (case side2 => exact Kd.R_tight rfl HO_379000.out); (case side3 => exact Kd.S_mono (HO_379001.out) (fun k_ hk_ => ⟨hk_, hk_.2.1⟩)); (case side4 => exact Kd.C_kept_came (Kd.heap_int .u8) HR379_2.out (Rgn.bq HB.out) (fun k_ hs_ => Or.elim hs_ (fun hs_ => Or.elim hs_ (fun e_ => Kd.R_base HO_379000.out k_ e_.symm) (fun h_ => h_.1)) (fun e_ => by rw [e_]; exact GE378.out))); (case side5 => exact HC379_2.out); rintro e w59 ⟨rfl, v382, v385, hbx, ho0, ho1, hb, hkp⟩; refine ⟨_, rfl, ?_⟩; replace HO_379001 := Aside0.mk trivial; have HO383 := Aside0.mk (Kd.R_mono (ok' := fun k_ => (w.heap.size ≤ k_)) ho0 (fun k_ hk_ => Or.elim hk_ (fun hs_ => (HO_379000.out.1 k_ (hs_).symm)) (fun hn_ => (Nat.le_trans (below_size (Rgn.bq HB.out)) hn_)))); have HO386 := Aside0.mk (Kd.S_mono (ok' := fun k_ => (w.heap.size ≤ k_) ∧ some k_ ≠ (v382 : Value).ownBlock ∧ k_ ≠ gb369 ∧ k_ ≠ gb370 ∧ k_ ≠ gb378 ∧ k_ ≠ gb380) ho1 (fun k_ hk_ => ⟨Or.elim hk_.1 (fun hs_ => Or.elim hs_ (fun hs_ => (HO_379000.out.1 k_ (hs_).symm)) (fun hs_ => hs_.1)) (fun hn_ => (Nat.le_trans (below_size (Rgn.bq HB.out)) hn_)), hk_.2, Or.elim hk_.1 (fun hs_ => Or.elim hs_ (fun hs_ => fun e_ => (Kd.R_ne HO_379000.out BK369.out (by decide)) (by rw [← e_]; exact hs_)) (fun hs_ => hs_.2.2.1)) (fun hn_ => (Kd.freshB (g := gb369) (o := .cells #[.slice A0_0 l0_0.length c0_0, .slice A0_1 l0_1.length c0_1] 29 (0, 0)) (Rgn.kb BK369.out) k_ hn_)), Or.elim hk_.1 (fun hs_ => Or.elim hs_ (fun hs_ => fun e_ => (Kd.R_ne HO_379000.out BK370.out (by decide)) (by rw [← e_]; exact hs_)) (fun hs_ => hs_.2.2.2.1)) (fun hn_ => (Kd.freshB (g := gb370) (o := .cells #[.slice none 0 0, .slice none 0 0] 29 (0, 0)) (Rgn.kb BK370.out) k_ hn_)), Or.elim hk_.1 (fun hs_ => Or.elim hs_ (fun hs_ => fun e_ => (Kd.R_ne HO_379000.out BK378.out (by decide)) (by rw [← e_]; exact hs_)) (fun hs_ => hs_.2.2.2.2.1)) (fun hn_ => (Kd.freshB (g := gb378) (o := .cells #[.slice Ao57 x379000_2.length co57, .slice Ao58 x379001_2.length co58] 29 (0, 0)) (Rgn.kb BK378.out) k_ hn_)), Or.elim hk_.1 (fun hs_ => Or.elim hs_ (fun hs_ => fun e_ => (Kd.R_ne HO_379000.out BK380.out (by decide)) (by rw [← e_]; exact hs_)) (fun hs_ => hs_.2.2.2.2.2)) (fun hn_ => (Kd.freshB (g := gb380) (o := .cells #[.int .i64 ((rd_T93 l1 x23_2).f0), .int .i64 ((rd_T93 l1 x23_2).f1), .slice A379_2 ((rd_T93 l1 x23_2).f2).length c379_2] 93 (0, 0)) (Rgn.kb BK380.out) k_ hn_))⟩)); replace BK369 := Aside0.mk (blk_kept (Rgn.kb BK369.out) hkp (fun hs_ => Or.elim hs_ (fun hs_ => Or.elim hs_ (fun e_ => (Kd.R_ne HO_379000.out BK369.out (by decide)) e_) (fun h_ => h_.2.2.1 rfl)) (fun e_ => NB369_378.out e_))); replace BK370 := Aside0.mk (blk_kept (Rgn.kb BK370.out) hkp (fun hs_ => Or.elim hs_ (fun hs_ => Or.elim hs_ (fun e_ => (Kd.R_ne HO_379000.out BK370.out (by decide)) e_) (fun h_ => h_.2.2.2.1 rfl)) (fun e_ => NB370_378.out e_))); replace BK378 := Aside0.mk hbx; replace BK380 := Aside0.mk (blk_kept (Rgn.kb BK380.out) hkp (fun hs_ => Or.elim hs_ (fun hs_ => Or.elim hs_ (fun e_ => (Kd.R_ne HO_379000.out BK380.out (by decide)) e_) (fun h_ => h_.2.2.2.2.2 rfl)) (fun e_ => NB380_378.out e_))); replace HB := Aside0.mk (hb); clear HO_379000; (try clear hb); (try clear hkp); (try clear ho0); (try clear ho1); obtain ⟨Ao60, co60, eo60⟩ := Kd.R_slice HO383.out; subst eo60; obtain ⟨Ao62, co62, eo62⟩ := Kd.S_slice HO386.out; subst eo62))
             go_roundg kj30
             case measure => have := HJ3.out; have := HK2.out; have := HJ30.out; omega
             case rel => exact ⟨(wrap64 (x23_2 + 1)), (t381), (t384), (.slice Ao60 t381.length co60), (.slice Ao62 t384.length co62), (by first | rfl | (simp; done) | (simp [*]; done)), H', ⟨by have := HJ3.out; have := HK2.out; have := HJ30.out; omega⟩, ⟨Rgn.rq HO383.out⟩, ⟨by (with_reducible repeat (first | apply Kd.S_alloc | apply Kd.S_drewN | apply Kd.S_drew)); exact Kd.S_mono HO386.out (fun _ hk => ⟨hk.1, hk.2.1, hk.2.2.1, hk.2.2.2.1, hk.2.2.2.2.1⟩)⟩, ⟨Rgn.kb BK369.out⟩, ⟨Rgn.kb BK370.out⟩, ⟨Rgn.kb BK378.out⟩, ⟨Rgn.bq HB.out⟩⟩
            ·
             replace c49 := Bool.eq_false_iff.mpr c49
             subst c49
             have H1 : (some (([] : List Int), ([] : List (S62)))) = some (r1, r2) := by rw [if_neg (show ¬ (false = true) by decide)] at H; exact H
             clear H
             have H := H1
             clear H1
             simp only [Option.some.injEq, Prod.mk.injEq] at H
             obtain ⟨rfl, rfl⟩ := H
             have hnb63 := NB380_369.out
             have hnc63 := NB369_380.out
             have hnb64 := NB380_370.out
             have hnc64 := NB370_380.out
             have hnb65 := NB380_378.out
             have hnc65 := NB378_380.out
             have hcz66_0 := Rgn.cz0 BK380.out
             have hcz66_1 := Rgn.cz1 BK380.out
             have hcz66_2 := Rgn.cz2 BK380.out
             have hfz66_0 := blk_frozen BK380.out 0
             have hfz66_1 := blk_frozen BK380.out 1
             have hfz66_2 := blk_frozen BK380.out 2
             have hnb67 := NB378_369.out
             have hnc67 := NB369_378.out
             have hnb68 := NB378_370.out
             have hnc68 := NB370_378.out
             have hcz69_0 := Rgn.cz0 BK378.out
             have hcz69_1 := Rgn.cz1 BK378.out
             have hfz69_0 := blk_frozen BK378.out 0
             have hfz69_1 := blk_frozen BK378.out 1
             obtain ⟨Ao70, co70, eo70⟩ := Kd.R_slice HO_379000.out
             subst eo70
             obtain ⟨Ao71, co71, eo71⟩ := Kd.S_slice HO_379001.out
             subst eo71
             go_wp2_with (first | ((with_reducible refine gate_callee (f := 85) rfl ?_); refine Rgn.gl (some 36) Try.func85 #[.pointer (some ⟨gb378, 0, none⟩), .agg #[.int .i64 ((rd_T93 l1 x23_2).f0), .int .i64 ((rd_T93 l1 x23_2).f1), .slice A379_2 ((rd_T93 l1 x23_2).f2).length c379_2]] ?_; (with_reducible refine (impl_do.calls kj30 gb378 (fun k_ => some k_ = (.slice Ao70 x379000_2.length co70 : Value).ownBlock) (.slice Ao70 x379000_2.length co70) x379000_2 (fun k_ => ((w.heap.size ≤ k_) ∧ (some k_ ≠ (.slice Ao70 x379000_2.length co70 : Value).ownBlock ∧ (k_ ≠ gb369 ∧ (k_ ≠ gb370 ∧ (k_ ≠ gb378 ∧ k_ ≠ gb380)))))) Ao71 co71 x379001_2 ((rd_T93 l1 x23_2).f0) ((rd_T93 l1 x23_2).f1) _ _ ((rd_T93 l1 x23_2).f2) t381 t384 false w _ ?side1 ?sg1 ?sg2 ?side2 ?side3 ?side4 ?side5 A48.out).mono ?_); (case side1 => exact Rgn.bq HB.out); (case sg1 => exact GE378.out); (case sg2 => exact Rgn.kb BK378.out); (case side2 => exact Kd.R_tight rfl HO_379000.out); (case side3 => exact Kd.S_mono (HO_379001.out) (fun k_ hk_ => ⟨hk_, hk_.2.1⟩)); (case side4 => exact Kd.C_kept_came (Kd.heap_int .u8) HR379_2.out (Rgn.bq HB.out) (fun k_ hs_ => Or.elim hs_ (fun hs_ => Or.elim hs_ (fun e_ => Kd.R_base HO_379000.out k_ e_.symm) (fun h_ => h_.1)) (fun e_ => by rw [e_]; exact GE378.out))); (case side5 => exact HC379_2.out); rintro e w72 ⟨rfl, v382, v385, hbx, ho0, ho1, hb, hkp⟩; refine ⟨_, rfl, ?_⟩; replace HO_379001 := Aside0.mk trivial; have HO383 := Aside0.mk (Kd.R_mono (ok' := fun k_ => (w.heap.size ≤ k_)) ho0 (fun k_ hk_ => Or.elim hk_ (fun hs_ => (HO_379000.out.1 k_ (hs_).symm)) (fun hn_ => (Nat.le_trans (below_size (Rgn.bq HB.out)) hn_)))); have HO386 := Aside0.mk (Kd.S_mono (ok' := fun k_ => (w.heap.size ≤ k_) ∧ some k_ ≠ (v382 : Value).ownBlock ∧ k_ ≠ gb369 ∧ k_ ≠ gb370 ∧ k_ ≠ gb378 ∧ k_ ≠ gb380) ho1 (fun k_ hk_ => ⟨Or.elim hk_.1 (fun hs_ => Or.elim hs_ (fun hs_ => (HO_379000.out.1 k_ (hs_).symm)) (fun hs_ => hs_.1)) (fun hn_ => (Nat.le_trans (below_size (Rgn.bq HB.out)) hn_)), hk_.2, Or.elim hk_.1 (fun hs_ => Or.elim hs_ (fun hs_ => fun e_ => (Kd.R_ne HO_379000.out BK369.out (by decide)) (by rw [← e_]; exact hs_)) (fun hs_ => hs_.2.2.1)) (fun hn_ => (Kd.freshB (g := gb369) (o := .cells #[.slice A0_0 l0_0.length c0_0, .slice A0_1 l0_1.length c0_1] 29 (0, 0)) (Rgn.kb BK369.out) k_ hn_)), Or.elim hk_.1 (fun hs_ => Or.elim hs_ (fun hs_ => fun e_ => (Kd.R_ne HO_379000.out BK370.out (by decide)) (by rw [← e_]; exact hs_)) (fun hs_ => hs_.2.2.2.1)) (fun hn_ => (Kd.freshB (g := gb370) (o := .cells #[.slice none 0 0, .slice none 0 0] 29 (0, 0)) (Rgn.kb BK370.out) k_ hn_)), Or.elim hk_.1 (fun hs_ => Or.elim hs_ (fun hs_ => fun e_ => (Kd.R_ne HO_379000.out BK378.out (by decide)) (by rw [← e_]; exact hs_)) (fun hs_ => hs_.2.2.2.2.1)) (fun hn_ => (Kd.freshB (g := gb378) (o := .cells #[.slice Ao70 x379000_2.length co70, .slice Ao71 x379001_2.length co71] 29 (0, 0)) (Rgn.kb BK378.out) k_ hn_)), Or.elim hk_.1 (fun hs_ => Or.elim hs_ (fun hs_ => fun e_ => (Kd.R_ne HO_379000.out BK380.out (by decide)) (by rw [← e_]; exact hs_)) (fun hs_ => hs_.2.2.2.2.2)) (fun hn_ => (Kd.freshB (g := gb380) (o := .cells #[.int .i64 ((rd_T93 l1 x23_2).f0), .int .i64 ((rd_T93 l1 x23_2).f1), .slice A379_2 ((rd_T93 l1 x23_2).f2).length c379_2] 93 (0, 0)) (Rgn.kb BK380.out) k_ hn_))⟩)); replace BK369 := Aside0.mk (blk_kept (Rgn.kb BK369.out) hkp (fun hs_ => Or.elim hs_ (fun hs_ => Or.elim hs_ (fun e_ => (Kd.R_ne HO_379000.out BK369.out (by decide)) e_) (fun h_ => h_.2.2.1 rfl)) (fun e_ => NB369_378.out e_))); replace BK370 := Aside0.mk (blk_kept (Rgn.kb BK370.out) hkp (fun hs_ => Or.elim hs_ (fun hs_ => Or.elim hs_ (fun e_ => (Kd.R_ne HO_379000.out BK370.out (by decide)) e_) (fun h_ => h_.2.2.2.1 rfl)) (fun e_ => NB370_378.out e_))); replace BK378 := Aside0.mk hbx; replace BK380 := Aside0.mk (blk_kept (Rgn.kb BK380.out) hkp (fun hs_ => Or.elim hs_ (fun hs_ => Or.elim hs_ (fun e_ => (Kd.R_ne HO_379000.out BK380.out (by decide)) e_) (fun h_ => h_.2.2.2.2.2 rfl)) (fun e_ => NB380_378.out e_))); replace HB := Aside0.mk (hb); clear HO_379000; (try clear hb); (try clear hkp); (try clear ho0); (try clear ho1); obtain ⟨Ao73, co73, eo73⟩ := Kd.R_slice HO383.out; subst eo73; obtain ⟨Ao75, co75, eo75⟩ := Kd.S_slice HO386.out; subst eo75; have hnb76 := NB370_369.out; have hnc76 := NB369_370.out; obtain ⟨hcz77_0, hcz77_1, hfz77_0, hfz77_1⟩ := Rgn.c2 BK370.out))
             refine bodyPost_ret (results_cell_row rfl _ _ gb370 29 #[.slice none 0 0, .slice none 0 0] (0, 0) _ rfl (by (with_reducible repeat (first | refine blk_drewN ?_ _ | refine blk_drew ?_ | refine blk_alloc ?_ _)); refine blk_put (cs := #[.slice none 0 0, .slice none 0 0]) ?_ 1 _ rfl; (with_reducible repeat (first | refine blk_drewN ?_ _ | refine blk_drew ?_ | refine blk_alloc ?_ _)); refine blk_put (cs := #[.slice none 0 0, .slice none 0 0]) ?_ 0 _ rfl; (with_reducible repeat (first | refine blk_drewN ?_ _ | refine blk_drew ?_ | refine blk_alloc ?_ _)); exact BK370.out) Try.underlying29 rfl (by kernel_rfl)) rfl ?_
             exact ⟨_, _, by first | rfl | (simp [errW_none, errW_some] <;> rfl) | (simp [*, errW_none, errW_some] <;> rfl), by first | exact Kd.R_nil _ _ _ _ _ | exact Kd.N_nil _ _ _ _ _ | exact Kd.V_nil _ _ _ _ _ | exact Kd.Q_nil _ _ _ _ _ | exact Kd.S_nil _ _ _ _ _, (by first | exact Kd.S_nil _ _ _ _ _ | exact Kd.N_nil _ _ _ _ _ | exact Kd.V_nil _ _ _ _ _ | exact Kd.Q_nil _ _ _ _ _ | exact Kd.R_nil _ _ _ _ _), Rgn.bq HB.out⟩
        ·
         rw [if_neg c30] at H
         exact absurd H (by simp)
       ·
        rw [if_neg c29] at H
        exact absurd H (by simp)
      ·
       rw [if_neg c28] at H
       have c28b0 : decide (x23_2 < (l1.length : Int)) = false := decide_eq_false c28
       clear c28
       simp only [Option.some.injEq, Prod.mk.injEq] at H
       obtain ⟨rfl, rfl⟩ := H
       have hnb78 := NB378_369.out
       have hnc78 := NB369_378.out
       have hnb79 := NB378_370.out
       have hnc79 := NB370_378.out
       have hcz80_0 := Rgn.cz0 BK378.out
       have hcz80_1 := Rgn.cz1 BK378.out
       have hfz80_0 := blk_frozen BK378.out 0
       have hfz80_1 := blk_frozen BK378.out 1
       obtain ⟨Ao81, co81, eo81⟩ := Kd.R_slice HO_379000.out
       subst eo81
       have hnb82 := NB370_369.out
       have hnc82 := NB369_370.out
       have hcz83_0 := Rgn.cz0 BK370.out
       have hcz83_1 := Rgn.cz1 BK370.out
       have hfz83_0 := blk_frozen BK370.out 0
       have hfz83_1 := blk_frozen BK370.out 1
       obtain ⟨Ao84, co84, eo84⟩ := Kd.S_slice HO_379001.out
       subst eo84
       go_wp2
       refine bodyPost_ret (results_cell_row rfl _ _ gb370 29 #[.slice Ao81 x379000_2.length co81, .slice Ao84 x379001_2.length co84] (0, 0) _ rfl (by (with_reducible repeat (first | refine blk_drewN ?_ _ | refine blk_drew ?_ | refine blk_alloc ?_ _)); refine blk_put (cs := #[.slice Ao81 x379000_2.length co81, .slice none 0 0]) ?_ 1 _ rfl; (with_reducible repeat (first | refine blk_drewN ?_ _ | refine blk_drew ?_ | refine blk_alloc ?_ _)); refine blk_put (cs := #[.slice none 0 0, .slice none 0 0]) ?_ 0 _ rfl; (with_reducible repeat (first | refine blk_drewN ?_ _ | refine blk_drew ?_ | refine blk_alloc ?_ _)); exact BK370.out) Try.underlying29 rfl (by kernel_rfl)) rfl ?_
       exact ⟨_, _, by first | rfl | (simp [errW_none, errW_some] <;> rfl) | (simp [*, errW_none, errW_some] <;> rfl), by (with_reducible repeat (first | apply Kd.R_alloc | apply Kd.R_drewN | apply Kd.R_drew)); exact Kd.R_mono (Kd.R_far (p := ⟨gb370, 1, none⟩) (Kd.R_far (p := ⟨gb370, 0, none⟩) (Kd.R_types HO_379000.out BK370.out (by decide)) (fun _ hk => hk.2) (.slice Ao81 x379000_2.length co81)) (fun _ hk => hk.2) (.slice Ao84 x379001_2.length co84)) (fun _ hk => hk.1), by (with_reducible repeat (first | apply Kd.S_alloc | apply Kd.S_drewN | apply Kd.S_drew)); exact Kd.S_mono (Kd.S_far (p := ⟨gb370, 1, none⟩) (Kd.S_far (p := ⟨gb370, 0, none⟩) (Kd.S_mono HO_379001.out (fun k_ hk => (⟨hk, hk.2.2.2.1⟩ : _ ∧ k_ ≠ gb370))) (fun _ hk => hk.2) (.slice Ao81 x379000_2.length co81)) (fun _ hk => hk.2) (.slice Ao84 x379001_2.length co84)) (fun _ hk => ⟨hk.1.1, hk.1.2.1⟩), Rgn.bq HB.out⟩

/-! ### laws_lwCopyDisk: function 46 -/
def laws_lwCopyDisk.l0 : Nat → Int → List Int → List (S62) → List Int → List (S62) → Option (List Int × (List (S62)))
 | 0, _, _, _, _, _ => none
 | k + 1, x4, x389000, x389001, x397000, x397001 => if x4 < (x389001.length : Int) then (if 0 ≤ x4 then ((some (([] : List Int) : List Int)).bind fun y398 => (if y398.length + ((rd_T62 x389001 x4).f1).length < 140737488355328 then (if x397001.length < 4398046511104 then (laws_lwCopyDisk.l0 k (wrap64 (x4 + 1)) x389000 x389001 x397000 (x397001 ++ [(⟨(rd_T62 x389001 x4).f0, (y398 ++ ((rd_T62 x389001 x4).f1))⟩ : S62)])) else (none)) else (none))) else (none)) else (some (x397000, x397001))
def laws_lwCopyDisk.f (k : Nat) (l0_0 : List Int) (l0_1 : List (S62)) : Option (List Int × (List (S62))) := (some (([] : List Int) : List Int)).bind fun y390 => (if y390.length + l0_0.length < 140737488355328 then (laws_lwCopyDisk.l0 k 0 l0_0 l0_1 (y390 ++ l0_0) ([] : List (S62))) else (none))
def laws_lwCopyDisk.T5 : Bool × List (List Nat × List Nat) := (true, [([], []), ([0], [0]), ([], []), ([2], [2]), ([], []), ([3, 4], [3, 4]), ([5], [5]), ([6], [6]), ([], []), ([], []), ([9], [9]), ([], []), ([10, 11], [10, 11]), ([12], [12]), ([13], [13]), ([8, 14], [8, 14]), ([7, 15], [7, 15]), ([16], [16]), ([1, 17, 15], [1, 17]), ([0, 1, 2, 3, 4, 5, 6, 7, 8, 9, 10, 11, 12, 13, 14, 15, 16, 17, 18], []), ([19, 18, 18, 0, 1, 2, 3, 4, 5, 6, 7, 8, 9, 10, 11, 12, 13, 14, 15, 16, 17, 18], [18, 19])])
def laws_lwCopyDisk.B5 : List Nat := [0, 1, 0, 4, 0, 28, 60, 124, 0, 0, 512, 0, 3584, 7680, 15872, 32512, 65532, 131068, 262143, 524287, 1048575]
theorem laws_lwCopyDisk.tab5 : rtab .any (opsOf Try.f46 5) = laws_lwCopyDisk.T5 := by kernel_rfl
theorem laws_lwCopyDisk.bits5 : waitsOk laws_lwCopyDisk.T5.2 laws_lwCopyDisk.B5 = true := by kernel_rfl
set_option maxHeartbeats 8000000 in
set_option maxRecDepth 100000 in
theorem laws_lwCopyDisk.calls (k : Nat) (A0_0 : Option Addr) (c0_0 : Nat) (l0_0 : List Int) (A0_1 : Option Addr) (c0_1 : Nat) (l0_1 : List (S62)) (r1 : List Int) (r2 : List (S62)) (w : World) (hr0_0 : Kd.C (Kd.int .u8) w A0_0 l0_0.length l0_0) (hc0_0 : l0_0.length ≤ c0_0) (hr0_1 : Kd.C k62 w A0_1 l0_1.length l0_1) (hc0_1 : l0_1.length ≤ c0_1) (h : laws_lwCopyDisk.f k l0_0 l0_1 = some (r1, r2)) :
  Calls Try.prog 46 #[.agg #[.slice A0_0 l0_0.length c0_0, .slice A0_1 l0_1.length c0_1]] w fun e w' => ∃ v0_ v1_ : Value, e = .returned (.agg #[v0_, v1_]) ∧ Kd.R (Kd.int .u8) 5 w' w.heap.size (fun _ => True) v0_ r1 ∧ Kd.S k62 62 w' w.heap.size (fun k_ => some k_ ≠ (v0_ : Value).ownBlock) v1_ r2 ∧ Below w.heap.size w w' := by
 have hu29 := Try.underlying29
 have hu62 := Try.underlying62
 have HR0_0 := Aside0.mk hr0_0
 have HC0_0 := Aside0.mk hc0_0
 clear hr0_0 hc0_0
 have HR0_1 := Aside0.mk hr0_1
 have HC0_1 := Aside0.mk hc0_1
 clear hr0_1 hc0_1
 have HB := Aside0.mk (Below.refl w.heap.size w)
 have H : ((some (([] : List Int) : List Int)).bind fun y390 => (if y390.length + l0_0.length < 140737488355328 then (laws_lwCopyDisk.l0 k 0 l0_0 l0_1 (y390 ++ l0_0) ([] : List (S62))) else (none))) = some (r1, r2) := h
 clear h
 obtain ⟨y390, hy390⟩ : ∃ y_ : List Int, y_ = (([] : List Int)) := ⟨_, rfl⟩
 replace H : (if y390.length + l0_0.length < 140737488355328 then (laws_lwCopyDisk.l0 k 0 l0_0 l0_1 (y390 ++ l0_0) ([] : List (S62))) else (none)) = some (r1, r2) := by first | (rw [hy390]; with_reducible exact H) | (have H2_ := (Option.bind_some _ _).symm.trans H; rw [hy390]; with_reducible exact H2_) | (have H2_ := (Option.bind_some _ _).symm.trans H; with_reducible exact H2_) | with_reducible exact H | (rw [hy390]; exact H) | exact H
 have Ny390 := Aside0.mk hy390
 clear hy390
 by_cases c2 : y390.length + l0_0.length < 140737488355328
 ·
  rw [if_pos c2] at H
  have LMc2 := Aside0.mk c2
  clear c2
  obtain ⟨y393, hy393⟩ : ∃ y_ : List Int, y_ = (y390 ++ l0_0) := ⟨_, rfl⟩
  replace H : (laws_lwCopyDisk.l0 k 0 l0_0 l0_1 y393 ([] : List (S62))) = some (r1, r2) := by first | (rw [hy393]; with_reducible exact H) | (have H2_ := (Option.bind_some _ _).symm.trans H; rw [hy393]; with_reducible exact H2_) | (have H2_ := (Option.bind_some _ _).symm.trans H; with_reducible exact H2_) | with_reducible exact H | (rw [hy393]; exact H) | exact H
  have Ny393 := Aside0.mk hy393
  clear hy393
  have H' := Aside0.mk H
  clear H
  go_enter Try.func46, Try.ntmps46
  go_wp2_with (first | ((with_reducible refine gate_dst (N := 1) rfl ?_); refine Rgn.bx 1 #[.slice A0_0 l0_0.length c0_0, .slice A0_1 l0_1.length c0_1] 29 ?_; intro gb388 hg w3 hbox hb; have BK388 := Aside0.mk (hbox); have GW388 := Aside0.mk (Rgn.ge hg HB.out); have GE388 := Aside0.mk (Rgn.ge hg HB.out); replace HB := Aside0.mk (below_step (Rgn.bq HB.out) hb); clear hb hbox hg) | ((with_reducible refine gate_dst (N := 2) rfl ?_); refine Rgn.bx 2 #[.slice none 0 0, .slice none 0 0] 29 ?_; intro gb389 hg w4 hbox hb; have BK389 := Aside0.mk (hbox); have GW389 := Aside0.mk (Rgn.ge hg HB.out); have GE389 := Aside0.mk (Rgn.ge hg HB.out); replace HB := Aside0.mk (below_step (Rgn.bq HB.out) hb); have NB388_389 := Aside0.mk (Rgn.nl hg BK388.out); have NB389_388 := Aside0.mk (Rgn.ng hg BK388.out); replace BK388 := Aside0.mk (Rgn.bb BK388.out hb); clear hb hbox hg) | ((with_reducible refine gate_dst (N := 5) rfl ?_); refine Kd.R_lit (Kd.int .u8) _ 5 ?hg (N := 5) ?hd (xs := ([] : List Int)) (inner := []) (ok := fun _ => True) (okp := fun _ => True) ?hr ?hp (fun _ hk => hk) trivial (Below.refl _ _) (Nat.le_refl _) (by simp) ?_; (case hd => rfl); (case hg => rfl); (case hr => first | (go_simp; done) | (go_simp; rfl)); (case hp => exact (Reps.none _ _)); intro v391 w5 ho6 hb hg_ hnew_; clear hg_ hnew_; (first | rw [← Ny390.out] at ho6 | (simp only [Int.reduceToNat] at ho6; rw [← Ny390.out] at ho6)); have HO392 := Aside0.mk (Kd.R_lower ho6 (below_size (Rgn.bq HB.out))); replace BK388 := Aside0.mk (Rgn.bb BK388.out hb); replace BK389 := Aside0.mk (Rgn.bb BK389.out hb); replace HB := Aside0.mk (below_step (Rgn.bq HB.out) hb); clear hb ho6; have hnb7 := NB388_389.out; have hnc7 := NB389_388.out; obtain ⟨hcz8_0, hcz8_1, hfz8_0, hfz8_1⟩ := Rgn.c2 BK388.out) | ((with_reducible refine gate_builtin (b := .append) (xs := #[.tmp 5, .tmp 7]) rfl ?_); at_builtin; refine Kd.R_append_rows (Kd.int .u8) (w0 := w) w.heap.size rfl (.tmp 5) (.tmp 7) 22 5 (.int .u8 0) 1 rfl Try.underlying22 info5 rfl (by decide) (by omega) v391 y390 l0_0 _ _ _ (fun _ => True) (fun _ => False) rfl rfl ?aO ?aR (fun _ _ h => h) (fun _ h => h.elim) ?aF ?aB ?aS ?aL ?_; (case aR => exact Rgn.cq (Kd.C_below HR0_0.out HB.out)); (case aB => exact (Rgn.bq HB.out)); (case aF => exact (fun _ _ => trivial)); (case aO => exact (Rgn.rq HO392.out)); (case aS => exact (below_size (Rgn.bq HB.out))); (case aL => have := LMc2.out; omega); intro v394 w9 ho hb hg hat; rw [← Ny393.out] at ho; replace BK388 := Aside0.mk (Rgn.bg BK388.out hg (Kd.R_ne HO392.out BK388.out (by decide))); replace BK389 := Aside0.mk (Rgn.bg BK389.out hg (Kd.R_ne HO392.out BK389.out (by decide))); replace HB := Aside0.mk (hb); have HO395 := Aside0.mk (ho); clear HO392; clear ho hb hg hat; obtain ⟨Ao10, co10, eo10⟩ := Kd.R_slice HO395.out; subst eo10) | ((with_reducible refine gate_dst (N := 3) rfl ?_); refine Rgn.bx 3 #[.slice none 0 0, .slice none 0 0] 29 ?_; intro gb396 hg w11 hbox hb; replace HO395 := Aside0.mk (Kd.R_below (Rgn.rq HO395.out) hb); have BK396 := Aside0.mk (hbox); have GW396 := Aside0.mk (Rgn.ge hg HB.out); have GE396 := Aside0.mk (Rgn.ge hg HB.out); replace HB := Aside0.mk (below_step (Rgn.bq HB.out) hb); have NB388_396 := Aside0.mk (Rgn.nl hg BK388.out); have NB396_388 := Aside0.mk (Rgn.ng hg BK388.out); replace BK388 := Aside0.mk (Rgn.bb BK388.out hb); have NB389_396 := Aside0.mk (Rgn.nl hg BK389.out); have NB396_389 := Aside0.mk (Rgn.ng hg BK389.out); replace BK389 := Aside0.mk (Rgn.bb BK389.out hb); clear hb hbox hg; have hnb12 := NB396_388.out; have hnc12 := NB388_396.out; have hnb13 := NB396_389.out; have hnc13 := NB389_396.out; obtain ⟨hcz14_0, hcz14_1, hfz14_0, hfz14_1⟩ := Rgn.c2 BK396.out))
  go_loopg [4] k (fun kq v4 w' => ∃ (x4_1 : Int) (x397001_1 : List (S62)) (u397001 : Value), v4 = .int .i64 x4_1 ∧ Aside0 (laws_lwCopyDisk.l0 kq x4_1 l0_0 l0_1 y393 x397001_1 = some (r1, r2)) ∧ Aside0 (kq ≤ k) ∧ Aside0 (Kd.R (Kd.int .u8) 5 w' w.heap.size (fun _ => True) (.slice Ao10 y393.length co10) y393) ∧ Aside0 (Kd.S k62 62 w' w.heap.size (fun k_ => some k_ ≠ ((.slice Ao10 y393.length co10) : Value).ownBlock) u397001 x397001_1) ∧ Aside0 (w'.heap[gb388]? = some (.cells #[(.slice A0_0 l0_0.length c0_0), (.slice A0_1 l0_1.length c0_1)] 29 (0, 0))) ∧ Aside0 (w'.heap[gb389]? = some (.cells #[(.slice none 0 0), (.slice none 0 0)] 29 (0, 0))) ∧ Aside0 (w'.heap[gb396]? = some (.cells #[(.slice Ao10 y393.length co10), u397001] 29 (0, 0))) ∧ Aside0 (Below w.heap.size w w'))
  case atStart => exact ⟨(0), (([] : List (S62))), (.slice none 0 0), (by first | rfl | (simp; done) | (simp [*]; done)), H', ⟨Nat.le_refl _⟩, ⟨by (with_reducible repeat (first | apply Kd.R_alloc | apply Kd.R_drewN | apply Kd.R_drew)); exact Kd.R_mono (Kd.R_far (p := ⟨gb396, 1, none⟩) (Kd.R_far (p := ⟨gb396, 0, none⟩) (Kd.R_types HO395.out BK396.out (by decide)) (fun _ hk => hk.2) (.slice Ao10 y393.length co10)) (fun _ hk => hk.2) (.slice none 0 0)) (fun _ hk => trivial)⟩, ⟨by first | exact Kd.S_nil _ _ _ _ _ | exact Kd.N_nil _ _ _ _ _ | exact Kd.V_nil _ _ _ _ _ | exact Kd.Q_nil _ _ _ _ _ | exact Kd.R_nil _ _ _ _ _⟩, ⟨Rgn.kf BK388.out⟩, ⟨Rgn.kf BK389.out⟩, ⟨by (with_reducible repeat (first | refine blk_drewN ?_ _ | refine blk_drew ?_ | refine blk_alloc ?_ _)); refine blk_put (cs := #[.slice Ao10 y393.length co10, .slice none 0 0]) ?_ 1 _ rfl; (with_reducible repeat (first | refine blk_drewN ?_ _ | refine blk_drew ?_ | refine blk_alloc ?_ _)); refine blk_put (cs := #[.slice none 0 0, .slice none 0 0]) ?_ 0 _ rfl; (with_reducible repeat (first | refine blk_drewN ?_ _ | refine blk_drew ?_ | refine blk_alloc ?_ _)); exact BK396.out⟩, ⟨Rgn.bq HB.out⟩⟩
  case round =>
   clear H'
   try clear c1
   try clear c2
   try clear p2
   try clear c4
   try clear c7
   try clear c12
   try clear c13
   try clear hcz14_0 hcz14_1
   try clear hcz8_0 hcz8_1
   try clear hfz14_0 hfz14_1
   try clear hfz8_0 hfz8_1
   obtain ⟨x4_1, x397001_1, u397001, rfl, HA, HK1, HO_397000, HO_397001, BK388, BK389, BK396, HB⟩ := hrel
   cases gk with
   | zero => exact absurd HA.out (by simp [laws_lwCopyDisk.l0])
   | succ k1 =>
    have H := HA.out
    clear HA
    simp only [laws_lwCopyDisk.l0] at H
    by_cases c15 : x4_1 < (l0_1.length : Int)
    ·
     rw [if_pos c15] at H
     have c15b0 : decide (x4_1 < (l0_1.length : Int)) = true := decide_eq_true c15
     clear c15
     by_cases c16 : 0 ≤ x4_1
     ·
      rw [if_pos c16] at H
      have c16b0 : decide (0 ≤ x4_1) = true := decide_eq_true c16
      clear c16
      obtain ⟨y398, hy398⟩ : ∃ y_ : List Int, y_ = (([] : List Int)) := ⟨_, rfl⟩
      replace H : (if y398.length + ((rd_T62 l0_1 x4_1).f1).length < 140737488355328 then (if x397001_1.length < 4398046511104 then (laws_lwCopyDisk.l0 k1 (wrap64 (x4_1 + 1)) l0_0 l0_1 y393 (x397001_1 ++ [(⟨(rd_T62 l0_1 x4_1).f0, (y398 ++ ((rd_T62 l0_1 x4_1).f1))⟩ : S62)])) else (none)) else (none)) = some (r1, r2) := by first | (rw [hy398]; with_reducible exact H) | (have H2_ := (Option.bind_some _ _).symm.trans H; rw [hy398]; with_reducible exact H2_) | (have H2_ := (Option.bind_some _ _).symm.trans H; with_reducible exact H2_) | with_reducible exact H | (rw [hy398]; exact H) | exact H
      have Ny398 := Aside0.mk hy398
      clear hy398
      by_cases c17 : y398.length + ((rd_T62 l0_1 x4_1).f1).length < 140737488355328
      ·
       rw [if_pos c17] at H
       have LMc17 := Aside0.mk c17
       clear c17
       obtain ⟨y402, hy402⟩ : ∃ y_ : List Int, y_ = (y398 ++ ((rd_T62 l0_1 x4_1).f1)) := ⟨_, rfl⟩
       replace H : (if x397001_1.length < 4398046511104 then (laws_lwCopyDisk.l0 k1 (wrap64 (x4_1 + 1)) l0_0 l0_1 y393 (x397001_1 ++ [(⟨(rd_T62 l0_1 x4_1).f0, y402⟩ : S62)])) else (none)) = some (r1, r2) := by first | (rw [hy402]; with_reducible exact H) | (have H2_ := (Option.bind_some _ _).symm.trans H; rw [hy402]; with_reducible exact H2_) | (have H2_ := (Option.bind_some _ _).symm.trans H; with_reducible exact H2_) | with_reducible exact H | (rw [hy402]; exact H) | exact H
       have Ny402 := Aside0.mk hy402
       clear hy402
       by_cases c18 : x397001_1.length < 4398046511104
       ·
        rw [if_pos c18] at H
        have LMc18 := Aside0.mk c18
        clear c18
        obtain ⟨y405, hy405⟩ : ∃ y_ : List (S62), y_ = (x397001_1 ++ [(⟨(rd_T62 l0_1 x4_1).f0, y402⟩ : S62)]) := ⟨_, rfl⟩
        replace H : (laws_lwCopyDisk.l0 k1 (wrap64 (x4_1 + 1)) l0_0 l0_1 y393 y405) = some (r1, r2) := by first | (rw [hy405]; with_reducible exact H) | (have H2_ := (Option.bind_some _ _).symm.trans H; rw [hy405]; with_reducible exact H2_) | (have H2_ := (Option.bind_some _ _).symm.trans H; with_reducible exact H2_) | with_reducible exact H | (rw [hy405]; exact H) | exact H
        have Ny405 := Aside0.mk hy405
        clear hy405
        have H' := Aside0.mk H
        clear H
        have hnb19 := NB388_389.out
        have hnc19 := NB389_388.out
        have hnb20 := NB388_396.out
        have hnc20 := NB396_388.out
        have hcz21_0 := Rgn.cz0 BK388.out
        have hcz21_1 := Rgn.cz1 BK388.out
        have hfz21_0 := blk_frozen BK388.out 0
        have hfz21_1 := blk_frozen BK388.out 1
        try go_wp2
        replace HO_397000 := Aside0.mk (Kd.R_drew HO_397000.out)
        replace HO_397001 := Aside0.mk (Kd.S_drew HO_397001.out)
        replace BK388 := Aside0.mk (blk_drew BK388.out)
        replace BK389 := Aside0.mk (blk_drew BK389.out)
        replace BK396 := Aside0.mk (blk_drew BK396.out)
        replace HB := Aside0.mk (below_drew1 HB.out)
        have p397 : 0 ≤ (x4_1 : Int) := of_decide_eq_true (by first | (with_reducible assumption) | assumption)
        have q397 : x4_1 < (l0_1.length : Int) := of_decide_eq_true (by first | (with_reducible assumption) | assumption)
        obtain ⟨ad397, A397_1, c397_1, e397, hx397_0, hx397_1, hl397_1, hi397_1⟩ := at_T62 HR0_1.out x4_1 p397 q397
        have hw397_1 := hx397_1
        have hw397_0 := hx397_0
        cases e397
        replace hx397_0 := Rgn.hx HB.out hx397_0
        replace hx397_1 := Rgn.hx HB.out hx397_1
        have HR397_1 := Aside0.mk hi397_1
        have HC397_1 := Aside0.mk hl397_1
        clear hi397_1 hl397_1
        replace p397 := eq_true p397
        replace q397 := eq_true q397
        have p401 : 0 ≤ (x4_1 : Int) := of_decide_eq_true (by first | (with_reducible assumption) | assumption)
        have q401 : x4_1 < (l0_1.length : Int) := of_decide_eq_true (by first | (with_reducible assumption) | assumption)
        obtain ⟨ad401, A401_1, c401_1, e401, hx401_0, hx401_1, hl401_1, hi401_1⟩ := at_T62 HR0_1.out x4_1 p401 q401
        have hw401_1 := hx401_1
        have hw401_0 := hx401_0
        obtain rfl : ad397 = ad401 := (by injection e401)
        replace hx401_0 := Rgn.hx HB.out hx401_0
        replace hx401_1 := Rgn.hx HB.out hx401_1
        have HR401_1 := Aside0.mk hi401_1
        have HC401_1 := Aside0.mk hl401_1
        clear hi401_1 hl401_1
        replace p401 := eq_true p401
        replace q401 := eq_true q401
        have ea_ := Option.some.inj (hx397_1.symm.trans hx401_1)
        injection ea_ with ea_ en_ ec_
        subst ea_
        subst ec_
        clear en_
        refine start_ (n := 21) (S := fun w' => w'.cell? ⟨gb396, 0, none⟩ = some (.slice Ao10 y393.length co10) ∧ w'.cell? ⟨gb396, 1, none⟩ = some (u397001) ∧ w'.cell? ⟨gb388, 0, none⟩ = some (.slice A0_0 l0_0.length c0_0) ∧ w'.cell? ⟨gb388, 1, none⟩ = some (.slice (some ad397) l0_1.length c0_1) ∧ w'.cell? (ad397.add ((x4_1).toNat * 2)) = some (.int .i64 ((rd_T62 l0_1 x4_1).f0)) ∧ w'.cell? ⟨(ad397.add ((x4_1).toNat * 2)).block, (ad397.add ((x4_1).toNat * 2)).off + 1, none⟩ = some (.slice A397_1 ((rd_T62 l0_1 x4_1).f1).length c397_1) ∧ w'.cell? (ad397.add ((x4_1).toNat * 2)) = some (.int .i64 ((rd_T62 l0_1 x4_1).f0)) ∧ w'.cell? ⟨(ad397.add ((x4_1).toNat * 2)).block, (ad397.add ((x4_1).toNat * 2)).off + 1, none⟩ = some (.slice A397_1 ((rd_T62 l0_1 x4_1).f1).length c397_1)) (ds := [20]) #[false, false, false, false, false, false, false, false, false, false, false, false, false, false, false, false, false, false, false, false, false] (by kernel_rfl) rfl rfl ⟨(blk_cell BK396.out 0).trans rfl, (blk_cell BK396.out 1).trans rfl, (blk_cell BK388.out 0).trans rfl, (blk_cell BK388.out 1).trans rfl, ((HB.out.cell (World.block_lt_of_cell? w _ hw397_0)).trans hw397_0), ((HB.out.cell (World.block_lt_of_cell? w _ hw397_1)).trans hw397_1), ((HB.out.cell (World.block_lt_of_cell? w _ hw401_0)).trans hw401_0), ((HB.out.cell (World.block_lt_of_cell? w _ hw401_1)).trans hw401_1)⟩ (fun hHeld => ?_); refine with_tabW laws_lwCopyDisk.tab5 laws_lwCopyDisk.bits5 (fun HT_ HW_ => ?_)
        generalize wr.drew = w22 at HO_397000 HO_397001 BK388 BK389 BK396 HB HR397_1 HR401_1 hx397_0 hx397_1 hx401_0 hx401_1 hHeld ⊢
        refine Rgn.pu HT_.out 0 17 ?_
        refine Rgn.pu HT_.out 2 19 ?_
        refine Rgn.pu HT_.out 4 21 ?_
        refine Rgn.pu HT_.out 9 26 ?_
        refine Rgn.pu HT_.out 11 28 ?_
        refine Rgn.tk HT_.out HW_.out 1 18 hHeld ?_
        refine Rgn.tk HT_.out HW_.out 3 20 hHeld ?_
        refine Rgn.pu HT_.out 5 22 ?_
        refine Rgn.pu HT_.out 6 23 ?_
        refine Rgn.tk HT_.out HW_.out 7 24 hHeld ?_
        refine Rgn.tk HT_.out HW_.out 10 27 hHeld ?_
        refine Rgn.pu HT_.out 12 29 ?_
        refine Rgn.pu HT_.out 13 30 ?_
        refine Rgn.tk HT_.out HW_.out 14 31 hHeld ?_
        refine one_ (i := 8) (N := some 25) #[true, true, true, true, true, true, true, true, true, true, true, true, true, true, true, false, false, false, false, false, false] rfl rfl (one_of HT_.out (by kernel_rfl)) (by decide) (fun K hK => ?_)
        refine Kd.R_lit_step (Kd.int .u8) _ 5 ?hg (N := 25) ?hd (xs := ([] : List Int)) (inner := []) (ok := fun _ => True) (okp := fun _ => True) ?hr ?hp (fun _ hk => hk) trivial (Below.refl _ _) (Nat.le_refl _) (by simp) ?_; (case hd => rfl); (case hg => rfl); (case hr => first | (go_simp; done) | (go_simp; rfl)); (case hp => exact (Reps.none _ _))
        intro v399 w23 ho24 hb hg_ hnew_
        clear hg_ hnew_
        (first | rw [← Ny398.out] at ho24 | (simp only [Int.reduceToNat] at ho24; rw [← Ny398.out] at ho24))
        replace HO_397001 := Aside0.mk (Kd.S_elder' (Rgn.sq HO_397001.out) (Kd.R_base ho24) hb)
        have HO400 := Aside0.mk (Kd.R_lower (Kd.R_new' ho24 (Kd.R_lt (Rgn.rq HO_397000.out))) (below_size (Rgn.bq HB.out)))
        replace HO_397000 := Aside0.mk (Kd.R_elder' (Rgn.rq HO_397000.out) (Kd.R_base ho24) hb)
        replace BK388 := Aside0.mk (Rgn.bb BK388.out hb)
        replace BK389 := Aside0.mk (Rgn.bb BK389.out hb)
        replace BK396 := Aside0.mk (Rgn.bb BK396.out hb)
        replace HB := Aside0.mk (below_step (Rgn.bq HB.out) hb)
        clear hb ho24
        refine hK.out _ _ ⟨(blk_cell BK396.out 0).trans rfl, (blk_cell BK396.out 1).trans rfl, (blk_cell BK388.out 0).trans rfl, (blk_cell BK388.out 1).trans rfl, ((HB.out.cell (World.block_lt_of_cell? w _ hw397_0)).trans hw397_0), ((HB.out.cell (World.block_lt_of_cell? w _ hw397_1)).trans hw397_1), ((HB.out.cell (World.block_lt_of_cell? w _ hw401_0)).trans hw401_0), ((HB.out.cell (World.block_lt_of_cell? w _ hw401_1)).trans hw401_1)⟩ (fun hHeld => ?_)
        clear hK K
        refine norm_ (a' := ?_) ?_ ?_
        rotate_left
        ·
         show Act.put _ (some 25) _ = _
         simp only [Act.put, List.setIfInBounds_toArray, List.set_cons_zero, List.set_cons_succ, i64_w, i32_w]
         rfl
        refine one_ (i := 15) (N := some 32) #[true, true, true, true, true, true, true, true, true, true, true, true, true, true, true, true, false, false, false, false, false] rfl rfl (one_of HT_.out (by kernel_rfl)) (by decide) (fun K hK => ?_)
        refine Kd.R_append_rows_step (Kd.int .u8) (w0 := w) w.heap.size (by rfl) (.tmp 25) (.tmp 31) 22 5 (.int .u8 0) 1 rfl Try.underlying22 info5 rfl (by decide) (by omega) v399 y398 ((rd_T62 l0_1 x4_1).f1) _ _ _ (fun k_ => some k_ ≠ (.slice Ao10 y393.length co10 : Value).ownBlock) (fun _ => False) rfl rfl ?aO ?aR (fun _ _ h => h) (fun _ h => h.elim) ?aF ?aB ?aS ?aL ?_
        (case aR => exact Rgn.cq (Kd.C_below HR401_1.out HB.out))
        (case aB => exact (Rgn.bq HB.out))
        (case aF => exact (fun k_ hk => Kd.fresh' (Kd.R_lt (Rgn.rq HO_397000.out)) k_ hk))
        (case aO => exact (Rgn.rq (Kd.R_mono HO400.out (fun _ hk => hk.2))))
        (case aS => exact (below_size (Rgn.bq HB.out)))
        (case aL => have := LMc17.out; omega)
        intro v403 w25 ho hb hg hat
        rw [← Ny402.out] at ho
        replace HO_397000 := Aside0.mk (Kd.R_after (ok := (fun _ => True)) (Rgn.rq HO_397000.out) hg hat)
        replace HO_397001 := Aside0.mk (Kd.S_after (ok := (fun k_ => some k_ ≠ (.slice Ao10 y393.length co10 : Value).ownBlock)) (Rgn.sq HO_397001.out) hg hat)
        replace BK388 := Aside0.mk (Rgn.bg BK388.out hg (Kd.R_ne HO400.out BK388.out (by decide)))
        replace BK389 := Aside0.mk (Rgn.bg BK389.out hg (Kd.R_ne HO400.out BK389.out (by decide)))
        replace BK396 := Aside0.mk (Rgn.bg BK396.out hg (Kd.R_ne HO400.out BK396.out (by decide)))
        replace HB := Aside0.mk (hb)
        have HO404 := Aside0.mk (ho)
        clear HO400
        clear ho hb hg hat
        obtain ⟨Ao26, co26, eo26⟩ := Kd.R_slice HO404.out
        (first | subst eo26 | (injection eo26 with f1_ f2_ f3_; have f4_ := f1_.symm; have f5_ := f3_.symm; clear f1_ f2_ f3_; subst f4_; subst f5_))
        refine hK.out _ _ ⟨(blk_cell BK396.out 0).trans rfl, (blk_cell BK396.out 1).trans rfl, (blk_cell BK388.out 0).trans rfl, (blk_cell BK388.out 1).trans rfl, ((HB.out.cell (World.block_lt_of_cell? w _ hw397_0)).trans hw397_0), ((HB.out.cell (World.block_lt_of_cell? w _ hw397_1)).trans hw397_1), ((HB.out.cell (World.block_lt_of_cell? w _ hw401_0)).trans hw401_0), ((HB.out.cell (World.block_lt_of_cell? w _ hw401_1)).trans hw401_1)⟩ (fun hHeld => ?_)
        clear hK K
        refine norm_ (a' := ?_) ?_ ?_
        rotate_left
        ·
         show Act.put _ (some 32) _ = _
         simp only [Act.put, List.setIfInBounds_toArray, List.set_cons_zero, List.set_cons_succ, i64_w, i32_w]
         rfl
        refine Rgn.pu HT_.out 16 33 ?_
        refine one_ (i := 17) (N := some 34) #[true, true, true, true, true, true, true, true, true, true, true, true, true, true, true, true, true, true, false, false, false] rfl rfl (one_of HT_.out (by kernel_rfl)) (by decide) (fun K hK => ?_)
        refine value_ (w1 := ?_) (v := ?_) (by rfl) rfl ?_ ?_
        rotate_left 2
        ·
         go_simp
         constructor
         ·
          rfl
         ·
          rfl
        refine hK.out _ _ ⟨(blk_cell (blk_alloc BK396.out _) 0).trans rfl, (blk_cell (blk_alloc BK396.out _) 1).trans rfl, (blk_cell (blk_alloc BK388.out _) 0).trans rfl, (blk_cell (blk_alloc BK388.out _) 1).trans rfl, (World.cell?_alloc_lt _ _ _ (World.block_lt_of_cell? _ _ (((HB.out.cell (World.block_lt_of_cell? w _ hw397_0)).trans hw397_0)))).trans (((HB.out.cell (World.block_lt_of_cell? w _ hw397_0)).trans hw397_0)), (World.cell?_alloc_lt _ _ _ (World.block_lt_of_cell? _ _ (((HB.out.cell (World.block_lt_of_cell? w _ hw397_1)).trans hw397_1)))).trans (((HB.out.cell (World.block_lt_of_cell? w _ hw397_1)).trans hw397_1)), (World.cell?_alloc_lt _ _ _ (World.block_lt_of_cell? _ _ (((HB.out.cell (World.block_lt_of_cell? w _ hw401_0)).trans hw401_0)))).trans (((HB.out.cell (World.block_lt_of_cell? w _ hw401_0)).trans hw401_0)), (World.cell?_alloc_lt _ _ _ (World.block_lt_of_cell? _ _ (((HB.out.cell (World.block_lt_of_cell? w _ hw401_1)).trans hw401_1)))).trans (((HB.out.cell (World.block_lt_of_cell? w _ hw401_1)).trans hw401_1))⟩ (fun hHeld => ?_)
        clear hK K
        refine norm_ (a' := ?_) ?_ ?_
        rotate_left
        ·
         show Act.put _ (some 34) _ = _
         simp only [Act.put, List.setIfInBounds_toArray, List.set_cons_zero, List.set_cons_succ, i64_w, i32_w]
         rfl
        refine one_ (i := 18) (N := some 35) #[true, true, true, true, true, true, true, true, true, true, true, true, true, true, true, true, true, true, true, false, false] rfl rfl (one_of HT_.out (by kernel_rfl)) (by decide) (fun K hK => ?_)
        refine Kd.S_append_step k62 (w0 := w) w.heap.size (by rfl) (.tmp 18) (.tmp 34) 27 62 (.agg #[(.int .i64 0), (.slice none 0 0)]) 32 rfl Try.underlying27 info62 rfl (by decide) (by omega) u397001 x397001_1 (⟨(rd_T62 l0_1 x4_1).f0, y402⟩ : S62) [.int .i64 ((rd_T62 l0_1 x4_1).f0), .slice Ao26 y402.length co26] (fun k_ => some k_ ≠ (.slice Ao10 y393.length co10 : Value).ownBlock) (fun k_ => some k_ = (.slice Ao26 y402.length co26 : Value).ownBlock) rfl rfl ?aP (fun k_ hk_ => ((Kd.R_mono (ok' := fun k_ => ((fun k_ => some k_ ≠ (.slice Ao10 y393.length co10 : Value).ownBlock)) k_ ∧ some k_ ≠ (u397001 : Value).ownBlock) (Kd.R_apart' (HO404.out) (Kd.S_typed HO_397001.out) (by decide)) (fun k_ hk => ⟨hk.1, hk.2⟩))).1 k_ hk_.symm) ?aF ?aO ?aB ?aS ?aL ?_
        (case aP => exact k62_mkM _ _ _ (⟨(rd_T62 l0_1 x4_1).f0, y402⟩ : S62) (Kd.R_mono (Kd.R_tight rfl (Kd.R_mono (ok' := fun k_ => ((fun k_ => some k_ ≠ (.slice Ao10 y393.length co10 : Value).ownBlock)) k_ ∧ some k_ ≠ (u397001 : Value).ownBlock) (Kd.R_apart' (HO404.out) (Kd.S_typed HO_397001.out) (by decide)) (fun k_ hk => ⟨hk.1, hk.2⟩))) (fun _ h_ => h_)))
        (case aB => exact (Rgn.bq HB.out))
        (case aF => exact (fun k_ hk => Kd.fresh' (Kd.R_lt (Rgn.rq HO_397000.out)) k_ hk))
        (case aO => exact (Rgn.sq (Kd.S_mono HO_397001.out (fun k_ hk => ⟨hk.1, fun e_ => hk.2 e_⟩))))
        (case aS => exact (below_size (Rgn.bq HB.out)))
        (case aL => have := LMc18.out; omega)
        intro v406 w27 ho hb hg hat
        rw [← Ny405.out] at ho
        replace HO_397000 := Aside0.mk (Kd.R_over' (Rgn.rq HO_397000.out) (Kd.S_typed (Rgn.sq HO_397001.out)) (by decide) hg)
        replace BK388 := Aside0.mk (Rgn.bg BK388.out hg (Kd.S_ne HO_397001.out BK388.out (by decide)))
        replace BK389 := Aside0.mk (Rgn.bg BK389.out hg (Kd.S_ne HO_397001.out BK389.out (by decide)))
        replace BK396 := Aside0.mk (Rgn.bg BK396.out hg (Kd.S_ne HO_397001.out BK396.out (by decide)))
        replace HB := Aside0.mk (hb)
        have HO407 := Aside0.mk (ho)
        clear HO404 HO_397001
        clear ho hb hg hat
        obtain ⟨Ao28, co28, eo28⟩ := Kd.S_slice HO407.out
        (first | subst eo28 | (injection eo28 with f1_ f2_ f3_; have f4_ := f1_.symm; have f5_ := f3_.symm; clear f1_ f2_ f3_; subst f4_; subst f5_))
        refine hK.out _ _ ⟨(blk_cell BK396.out 0).trans rfl, (blk_cell BK396.out 1).trans rfl, (blk_cell BK388.out 0).trans rfl, (blk_cell BK388.out 1).trans rfl, ((HB.out.cell (World.block_lt_of_cell? w _ hw397_0)).trans hw397_0), ((HB.out.cell (World.block_lt_of_cell? w _ hw397_1)).trans hw397_1), ((HB.out.cell (World.block_lt_of_cell? w _ hw401_0)).trans hw401_0), ((HB.out.cell (World.block_lt_of_cell? w _ hw401_1)).trans hw401_1)⟩ (fun hHeld => ?_)
        clear hK K
        refine norm_ (a' := ?_) ?_ ?_
        rotate_left
        ·
         show Act.put _ (some 35) _ = _
         simp only [Act.put, List.setIfInBounds_toArray, List.set_cons_zero, List.set_cons_succ, i64_w, i32_w]
         rfl
        refine Rgn.pu HT_.out 19 36 ?_
        refine last_ (i := 20) (N := none) #[true, true, true, true, true, true, true, true, true, true, true, true, true, true, true, true, true, true, true, true, true] rfl rfl (one_of HT_.out (by kernel_rfl)) (by decide) (fun K hK => ?_)
        have hs29 : w27.cell? ⟨gb396, 1, none⟩ = some (u397001) := (blk_cell BK396.out 1).trans rfl
        have hfs29 := blk_frozen BK396.out 1
        have hns29_0 := NB388_396.out
        have hns29_1 := NB389_396.out
        have hms29_0 := NB396_388.out
        have hms29_1 := NB396_389.out
        refine skip_ (w1 := ?_) (by rfl) rfl ?_ ?_
        rotate_left
        ·
         go_simp
         rfl
        refine hK.out _ _ ?_
        clear hK K
        refine done_ (done_of HT_.out (by kernel_rfl)) ?_
        try go_wp2
        go_roundg k1
        case measure => have := HK1.out; omega
        case rel => exact ⟨(wrap64 (x4_1 + 1)), (y405), (.slice Ao28 y405.length co28), (by first | rfl | (simp; done) | (simp [*]; done)), H', ⟨by have := HK1.out; omega⟩, ⟨by (with_reducible repeat (first | apply Kd.R_alloc | apply Kd.R_drewN | apply Kd.R_drew)); exact Kd.R_mono (Kd.R_far (p := ⟨gb396, 1, none⟩) (Kd.R_types HO_397000.out BK396.out (by decide)) (fun _ hk => hk.2) (.slice Ao28 y405.length co28)) (fun _ hk => trivial)⟩, ⟨by (with_reducible repeat (first | apply Kd.S_alloc | apply Kd.S_drewN | apply Kd.S_drew)); exact Kd.S_mono (Kd.S_far (p := ⟨gb396, 1, none⟩) (Kd.S_types HO407.out BK396.out (by decide)) (fun _ hk => hk.2) (.slice Ao28 y405.length co28)) (fun _ hk => hk.1)⟩, ⟨Rgn.kf BK388.out⟩, ⟨Rgn.kf BK389.out⟩, ⟨by (with_reducible repeat (first | refine blk_drewN ?_ _ | refine blk_drew ?_ | refine blk_alloc ?_ _)); refine blk_put (cs := #[.slice Ao10 y393.length co10, u397001]) ?_ 1 _ rfl; (with_reducible repeat (first | refine blk_drewN ?_ _ | refine blk_drew ?_ | refine blk_alloc ?_ _)); exact BK396.out⟩, ⟨Rgn.bq HB.out⟩⟩
       ·
        rw [if_neg c18] at H
        exact absurd H (by simp)
      ·
       rw [if_neg c17] at H
       exact absurd H (by simp)
     ·
      rw [if_neg c16] at H
      exact absurd H (by simp)
    ·
     rw [if_neg c15] at H
     have c15b0 : decide (x4_1 < (l0_1.length : Int)) = false := decide_eq_false c15
     clear c15
     simp only [Option.some.injEq, Prod.mk.injEq] at H
     obtain ⟨rfl, rfl⟩ := H
     have hnb30 := NB388_389.out
     have hnc30 := NB389_388.out
     have hnb31 := NB388_396.out
     have hnc31 := NB396_388.out
     have hcz32_0 := Rgn.cz0 BK388.out
     have hcz32_1 := Rgn.cz1 BK388.out
     have hfz32_0 := blk_frozen BK388.out 0
     have hfz32_1 := blk_frozen BK388.out 1
     have hnb33 := NB396_389.out
     have hnc33 := NB389_396.out
     have hcz34_0 := Rgn.cz0 BK396.out
     have hcz34_1 := Rgn.cz1 BK396.out
     have hfz34_0 := blk_frozen BK396.out 0
     have hfz34_1 := blk_frozen BK396.out 1
     have hcz35_0 := Rgn.cz0 BK389.out
     have hcz35_1 := Rgn.cz1 BK389.out
     have hfz35_0 := blk_frozen BK389.out 0
     have hfz35_1 := blk_frozen BK389.out 1
     obtain ⟨Ao36, co36, eo36⟩ := Kd.S_slice HO_397001.out
     subst eo36
     go_wp2
     refine bodyPost_ret (results_cell_row rfl _ _ gb389 29 #[.slice Ao10 y393.length co10, .slice Ao36 x397001_1.length co36] (0, 0) _ rfl (by (with_reducible repeat (first | refine blk_drewN ?_ _ | refine blk_drew ?_ | refine blk_alloc ?_ _)); refine blk_put (cs := #[.slice Ao10 y393.length co10, .slice none 0 0]) ?_ 1 _ rfl; (with_reducible repeat (first | refine blk_drewN ?_ _ | refine blk_drew ?_ | refine blk_alloc ?_ _)); refine blk_put (cs := #[.slice none 0 0, .slice none 0 0]) ?_ 0 _ rfl; (with_reducible repeat (first | refine blk_drewN ?_ _ | refine blk_drew ?_ | refine blk_alloc ?_ _)); exact BK389.out) Try.underlying29 rfl (by kernel_rfl)) rfl ?_
     exact ⟨_, _, by first | rfl | (simp [errW_none, errW_some] <;> rfl) | (simp [*, errW_none, errW_some] <;> rfl), by (with_reducible repeat (first | apply Kd.R_alloc | apply Kd.R_drewN | apply Kd.R_drew)); exact Kd.R_mono (Kd.R_far (p := ⟨gb389, 1, none⟩) (Kd.R_far (p := ⟨gb389, 0, none⟩) (Kd.R_types HO_397000.out BK389.out (by decide)) (fun _ hk => hk.2) (.slice Ao10 y393.length co10)) (fun _ hk => hk.2) (.slice Ao36 x397001_1.length co36)) (fun _ hk => trivial), by (with_reducible repeat (first | apply Kd.S_alloc | apply Kd.S_drewN | apply Kd.S_drew)); exact Kd.S_mono (Kd.S_far (p := ⟨gb389, 1, none⟩) (Kd.S_far (p := ⟨gb389, 0, none⟩) (Kd.S_types HO_397001.out BK389.out (by decide)) (fun _ hk => hk.2) (.slice Ao10 y393.length co10)) (fun _ hk => hk.2) (.slice Ao36 x397001_1.length co36)) (fun _ hk => hk.1), Rgn.bq HB.out⟩
 ·
  rw [if_neg c2] at H
  exact absurd H (by simp)

end Go.Proofs.Ytdhjhadcadcceaa.PFnDisk
