-- written by a program of this session (wip/src/print2.py)
import Derived.Test.YtdhjhadcadcceaaPFnDiskx0
import Derived.Test.YtdhjhadcadcceaaPFnDiskx1
namespace Go.Proofs.Ytdhjhadcadcceaa.PFnDisk
open Go.RowKit Go.Proofs.YtdhjhadcadcceaaW.PrintWords Go.Proofs.YtdhjhadcadcceaaW.PrintLast Go.Proofs.YtdhjhadcadcceaaW.PrintMore
attribute [local go_sem] max2_int min2_int max_two min_two max_three min_three max_four min_four   -- for this text's walks alone
set_option linter.unusedVariables false
set_option linter.unusedSimpArgs false

/-! ### impl_do: function 85 -/
/-- Bytes laid over a row from a place on, where they are some and fit. -/
def impl_lay.f (k : Nat) (x : List Int) (o : Int) (d : List Int) : Option (List Int) := if 0 ≤ o then (if o.toNat + d.length ≤ x.length then (if 0 < d.length then some (splice x o.toNat d) else none) else none) else none
theorem impl_lay.is {k : Nat} {x : List Int} {o : Int} {d t : List Int} (h : impl_lay.f k x o d = some t) : ∃ i : Nat, o = (i : Int) ∧ i + d.length ≤ x.length ∧ 0 < d.length ∧ t = splice x i d := by
 unfold impl_lay.f at h
 by_cases h0 : 0 ≤ o
 rotate_left
 ·
  rw [if_neg h0] at h; cases h
 rw [if_pos h0] at h
 by_cases h1 : o.toNat + d.length ≤ x.length
 rotate_left
 ·
  rw [if_neg h1] at h; cases h
 rw [if_pos h1] at h
 by_cases h2 : 0 < d.length
 rotate_left
 ·
  rw [if_neg h2] at h; cases h
 rw [if_pos h2] at h
 exact ⟨o.toNat, by omega, h1, h2, (Option.some.inj h).symm⟩
mutual
def impl_do.j0 : Nat → Bool → List Int → List (S62) → Option (List Int × (List (S62)) × Bool)
 | 0, _, _, _ => none
 | k + 1, x62, x357000, x357001 => if x62 = true then (some (x357000, x357001, false)) else (impl_do.l0 k x357001 (x357001.length : Int) 0 x357000 x357001)
def impl_do.l0 : Nat → List (S62) → Int → Int → List Int → List (S62) → Option (List Int × (List (S62)) × Bool)
 | 0, _, _, _, _, _ => none
 | k + 1, x66, x67, x68, x357000, x357001 => if x68 < x67 then (if 0 ≤ x68 then (if x68 < (x66.length : Int) then ((impl_lay.f k x357000 (wrap64 (((rd_T62 x66 x68).f0) * 64)) ((rd_T62 x66 x68).f1)).bind fun t368 => (impl_do.l0 k x66 x67 (wrap64 (x68 + 1)) t368 x357001)) else (none)) else (none)) else (some (x357000, ([] : List (S62)), true))
end
def impl_do.f (k : Nat) (l0_0 : List Int) (l0_1 : List (S62)) (a1_0 : Int) (a1_1 : Int) (l1_2 : List Int) : Option (List Int × (List (S62)) × Bool) := if a1_0 = 1 then (if (l0_1.length : Int) ≥ 600 then (some (l0_0, l0_1, false)) else (if a1_1 < 0 then (some (l0_0, l0_1, false)) else ((impl_nb.f l0_0 l0_1).bind fun t358 => (if a1_1 ≥ t358 then (some (l0_0, l0_1, false)) else (if (l1_2.length : Int) = 64 then ((impl_cp.f l1_2).bind fun t359 => (if l0_1.length < 4398046511104 then (some (l0_0, (l0_1 ++ [(⟨a1_1, t359⟩ : S62)]), true)) else (none))) else (some (l0_0, l0_1, false))))))) else (if a1_0 = 2 then (if a1_1 = 0 then (impl_do.j0 k ((l1_2.length : Int) != 0) l0_0 l0_1) else (impl_do.j0 k true l0_0 l0_1)) else (some (l0_0, l0_1, false)))
def impl_do.T3 : Bool × List (List Nat × List Nat) := (true, [([], []), ([0], [0]), ([1], [1]), ([2], [2]), ([3], [3]), ([4], [4]), ([5], [5]), ([6], [6]), ([7, 6], [6, 7]), ([8, 6], [6, 8]), ([6, 9], [6, 9]), ([10, 6], [10]), ([11], [11]), ([12, 11], [11, 12]), ([11], [11]), ([14, 11], [11, 14]), ([15, 11], [11, 15]), ([16, 11, 11], [11, 16]), ([13, 17, 11], [11, 13, 17]), ([11, 18], [11, 18]), ([19, 17], [19]), ([20], [20]), ([21, 20], [20, 21]), ([22, 20], [20, 22]), ([23, 20], [20, 23]), ([20, 24], [20, 24])])
def impl_do.B3 : List Nat := [0, 1, 3, 7, 15, 31, 63, 127, 255, 511, 1023, 2047, 4095, 8191, 4095, 20479, 53247, 118783, 262143, 524287, 1048575, 2097151, 4194303, 8388607, 16777215, 33554431]
theorem impl_do.tab3 : rtab .any (opsOf Try.f85 3) = impl_do.T3 := by kernel_rfl
theorem impl_do.bits3 : waitsOk impl_do.T3.2 impl_do.B3 = true := by kernel_rfl
def impl_do.T5 : Bool × List (List Nat × List Nat) := (true, [([], []), ([], []), ([1], [1]), ([2], [2]), ([3], [3]), ([], []), ([5], [5]), ([], []), ([7], [7]), ([8], [8]), ([6, 9], [6, 9]), ([10], [10]), ([4, 11, 9], [4, 11]), ([0, 0, 1, 2, 3, 4, 5, 6, 7, 8, 9, 10, 11, 12], [0]), ([13, 0, 1, 2, 3, 4, 5, 6, 7, 8, 9, 10, 11, 12], [13]), ([14, 12, 12, 0, 1, 2, 3, 4, 5, 6, 7, 8, 9, 10, 11, 12], [12, 14])])
def impl_do.B5 : List Nat := [0, 0, 2, 6, 14, 0, 32, 0, 128, 384, 992, 2016, 4094, 8191, 16383, 32767]
theorem impl_do.tab5 : rtab .any (opsOf Try.f85 5) = impl_do.T5 := by kernel_rfl
theorem impl_do.bits5 : waitsOk impl_do.T5.2 impl_do.B5 = true := by kernel_rfl
def impl_do.T13 : Bool × List (List Nat × List Nat) := (true, [([], []), ([0], [0]), ([1], [1]), ([2], [2]), ([], []), ([4], [4]), ([5], [5]), ([3, 6], [3, 6]), ([], []), ([8], [8]), ([7, 9], [7, 9])])
def impl_do.B13 : List Nat := [0, 1, 3, 7, 0, 16, 48, 127, 0, 256, 1023]
theorem impl_do.tab13 : rtab .any (opsOf Try.f85 13) = impl_do.T13 := by kernel_rfl
theorem impl_do.bits13 : waitsOk impl_do.T13.2 impl_do.B13 = true := by kernel_rfl
set_option maxHeartbeats 8000000 in
set_option maxRecDepth 100000 in
theorem impl_do.calls (k : Nat) (gb356 : Nat) (P0_0_ : Nat → Prop) (u9000_ : Value) (l0_0 : List Int) (P0_1_ : Nat → Prop) (A0_1 : Option Addr) (c0_1 : Nat) (l0_1 : List (S62)) (a1_0 : Int) (a1_1 : Int) (A1_2 : Option Addr) (c1_2 : Nat) (l1_2 : List Int) (r1 : List Int) (r2 : List (S62)) (r3 : Bool) (w0 w : World) (hB : Below w0.heap.size w0 w) (hge : w0.heap.size ≤ gb356) (hbk : w.heap[gb356]? = some (.cells #[u9000_, .slice A0_1 l0_1.length c0_1] 29 (0, 0))) (ho0_0 : Kd.R (Kd.int .u8) 5 w w0.heap.size P0_0_ u9000_ l0_0) (hs0_1 : Kd.S k62 62 w w0.heap.size (fun k_ => P0_1_ k_ ∧ some k_ ≠ (u9000_ : Value).ownBlock) (.slice A0_1 l0_1.length c0_1) l0_1) (hr1_2 : ∀ W_, Kept w W_ (fun k_ => (P0_0_ k_ ∨ P0_1_ k_) ∨ k_ = gb356) → Kd.C (Kd.int .u8) W_ A1_2 l1_2.length l1_2) (hc1_2 : l1_2.length ≤ c1_2) (h : impl_do.f k l0_0 l0_1 a1_0 a1_1 l1_2 = some (r1, r2, r3)) :
  Calls Try.prog 85 #[.pointer (some ⟨gb356, 0, none⟩), .agg #[.int .i64 a1_0, .int .i64 a1_1, .slice A1_2 l1_2.length c1_2]] w fun e w' => e = .returned (.bool r3) ∧ ∃ v0_ v1_ : Value, w'.heap[gb356]? = some (.cells #[v0_, v1_] 29 (0, 0)) ∧ Kd.R (Kd.int .u8) 5 w' w0.heap.size (fun k_ => (P0_0_ k_ ∨ w.heap.size ≤ k_)) v0_ r1 ∧ Kd.S k62 62 w' w0.heap.size (fun k_ => ((P0_0_ k_ ∨ P0_1_ k_) ∨ w.heap.size ≤ k_) ∧ some k_ ≠ (v0_ : Value).ownBlock) v1_ r2 ∧ Below w0.heap.size w0 w' ∧ Kept w w' (fun k_ => (P0_0_ k_ ∨ P0_1_ k_) ∨ k_ = gb356) := by
 have hu29 := Try.underlying29
 have hu93 := Try.underlying93
 have hu62 := Try.underlying62
 have HO0_0 := Aside0.mk (show Kd.R (Kd.int .u8) 5 w w0.heap.size (fun k_ => (P0_0_ k_ ∨ w.heap.size ≤ k_)) u9000_ l0_0 from Kd.R_mono ho0_0 (fun k_ hk => (.inl hk)))
 have HO0_1 := Aside0.mk (show Kd.S k62 62 w w0.heap.size (fun k_ => ((P0_0_ k_ ∨ P0_1_ k_) ∨ w.heap.size ≤ k_) ∧ some k_ ≠ (u9000_ : Value).ownBlock) (.slice A0_1 l0_1.length c0_1) l0_1 from Kd.S_mono hs0_1 (fun k_ hk => ⟨.inl (.inr hk.1), hk.2⟩))
 have HR1_2 := Aside0.mk hr1_2
 have HC1_2 := Aside0.mk hc1_2
 clear hr1_2 hc1_2
 have HK := Aside0.mk (Kept.refl w (fun k_ => (P0_0_ k_ ∨ P0_1_ k_) ∨ k_ = gb356))
 have HW0 := Aside0.mk hB.size
 have HB := Aside0.mk hB
 clear hB
 have GE356 := Aside0.mk hge
 have BK356 := Aside0.mk hbk
 have GW356 := Aside0.mk (show ((P0_0_ gb356 ∨ P0_1_ gb356) ∨ gb356 = gb356) ∨ w.heap.size ≤ gb356 from .inl (.inr rfl))
 have HO0_1 := Aside0.mk (Kd.S_types HO0_1.out hbk (by decide))
 clear hge hbk
 have H : (if a1_0 = 1 then (if (l0_1.length : Int) ≥ 600 then (some (l0_0, l0_1, false)) else (if a1_1 < 0 then (some (l0_0, l0_1, false)) else ((impl_nb.f l0_0 l0_1).bind fun t358 => (if a1_1 ≥ t358 then (some (l0_0, l0_1, false)) else (if (l1_2.length : Int) = 64 then ((impl_cp.f l1_2).bind fun t359 => (if l0_1.length < 4398046511104 then (some (l0_0, (l0_1 ++ [(⟨a1_1, t359⟩ : S62)]), true)) else (none))) else (some (l0_0, l0_1, false))))))) else (if a1_0 = 2 then (if a1_1 = 0 then (impl_do.j0 k ((l1_2.length : Int) != 0) l0_0 l0_1) else (impl_do.j0 k true l0_0 l0_1)) else (some (l0_0, l0_1, false)))) = some (r1, r2, r3) := h
 clear h
 by_cases c3 : a1_0 = 1
 ·
  rw [if_pos c3] at H
  have c3b0 : (a1_0 == 1) = true := beq_iff_eq.mpr c3
  have c3b1 : (a1_0 != 1) = false := bne_eq_false_iff_eq.mpr c3
  clear c3
  by_cases c4 : (l0_1.length : Int) ≥ 600
  ·
   rw [if_pos c4] at H
   have c4b0 : decide (600 ≤ (l0_1.length : Int)) = true := decide_eq_true c4
   have c4b1 : decide (600 ≤ l0_1.length) = true := decide_eq_true (by omega)
   clear c4
   simp only [Option.some.injEq, Prod.mk.injEq] at H
   obtain ⟨rfl, rfl, rfl⟩ := H
   obtain ⟨Ao5, co5, eo5⟩ := Kd.R_slice HO0_0.out
   subst eo5
   go_enter Try.func85, Try.ntmps85
   try go_wp2_with (first | ((with_reducible refine gate_dst (N := 3) rfl ?_); (try (refine gate_guard (by rfl) ?_; dsimp only)); refine Rgn.bx 3 #[.int .i64 a1_0, .int .i64 a1_1, .slice A1_2 l1_2.length c1_2] 93 ?_; intro gb357 hg w7 hbox hb; replace HO0_0 := Aside0.mk (Kd.R_below (Rgn.rq HO0_0.out) hb); replace HO0_1 := Aside0.mk (Kd.S_below (Kd.S_elderB (Rgn.sq HO0_1.out) gb357 (Nat.le_of_eq hg.symm)) hb); have BK357 := Aside0.mk (hbox); have GW357 := Aside0.mk ((by rw [hg]; exact (by first | exact HK.out.1 | exact (show Kept w _ (fun k_ => (P0_0_ k_ ∨ P0_1_ k_) ∨ k_ = gb356) from by repeat (first | (with_reducible first | exact HK.out | apply Kept.alloc | apply Kept.drewN | apply Kept.drew | refine Kept.setCell ?_ (.inl (.inr rfl)) _) | exact HK.out)).1) : w.heap.size ≤ gb357)); replace HK := Aside0.mk (Kept.below (S := (fun k_ => (P0_0_ k_ ∨ P0_1_ k_) ∨ k_ = gb356)) (by repeat (first | (with_reducible first | exact HK.out | apply Kept.alloc | apply Kept.drewN | apply Kept.drew | refine Kept.setCell ?_ (.inl (.inr rfl)) _) | exact HK.out)) hb); have GE357 := Aside0.mk (Rgn.ge hg HB.out); replace HB := Aside0.mk (below_step (Rgn.bq HB.out) hb); have NB356_357 := Aside0.mk (Rgn.nl hg BK356.out); have NB357_356 := Aside0.mk (Rgn.ng hg BK356.out); replace BK356 := Aside0.mk (Rgn.bb BK356.out hb); clear hb hbox hg; have hnb8 := NB357_356.out; have hnc8 := NB356_357.out; obtain ⟨hcz9_0, hcz9_1, hcz9_2, hfz9_0, hfz9_1, hfz9_2⟩ := Rgn.c3 BK357.out))
   replace HO0_0 := Aside0.mk (Kd.R_drew HO0_0.out)
   replace HO0_1 := Aside0.mk (Kd.S_drew HO0_1.out)
   replace BK356 := Aside0.mk (blk_drew BK356.out)
   replace BK357 := Aside0.mk (blk_drew BK357.out)
   replace HK := Aside0.mk (Kept.drew HK.out)
   replace HB := Aside0.mk (below_drew1 HB.out)
   refine start_ (n := 26) (S := fun w' => w'.cell? ⟨gb356, 0, none⟩ = some (.slice Ao5 l0_0.length co5) ∧ w'.cell? ⟨gb356, 1, none⟩ = some (.slice A0_1 l0_1.length c0_1)) (ds := []) #[false, false, false, false, false, false, false, false, false, false, false, false, false, false, false, false, false, false, false, false, false, false, false, false, false, false] (by kernel_rfl) rfl rfl ⟨(blk_cell BK356.out 0).trans rfl, (blk_cell BK356.out 1).trans rfl⟩ (fun hHeld => ?_); refine with_tabW impl_do.tab3 impl_do.bits3 (fun HT_ HW_ => ?_)
   generalize w7.drew = w10 at HO0_0 HO0_1 BK356 BK357 HK HB hHeld ⊢
   refine Rgn.pu HT_.out 0 11 ?_
   refine Rgn.pu HT_.out 1 12 ?_
   refine Rgn.pu HT_.out 2 13 ?_
   refine Rgn.tk HT_.out HW_.out 3 14 hHeld ?_
   refine Rgn.pu HT_.out 4 15 ?_
   refine Rgn.pu HT_.out 5 16 ?_
   refine Rgn.pu HT_.out 6 17 ?_
   refine Rgn.pn HT_.out 7 18 ?_
   refine Rgn.pn HT_.out 8 19 ?_
   refine Rgn.pn HT_.out 9 20 ?_
   refine Rgn.pu HT_.out 10 21 ?_
   refine Rgn.pu HT_.out 11 22 ?_
   refine Rgn.pn HT_.out 12 23 ?_
   refine Rgn.pn HT_.out 13 24 ?_
   refine Rgn.pn HT_.out 14 25 ?_
   refine Rgn.pn HT_.out 15 26 ?_
   refine Rgn.pn HT_.out 16 27 ?_
   refine Rgn.pn HT_.out 17 28 ?_
   refine Rgn.pn HT_.out 18 29 ?_
   refine Rgn.pu HT_.out 19 30 ?_
   refine Rgn.pu HT_.out 20 31 ?_
   refine Rgn.pn HT_.out 21 32 ?_
   refine Rgn.pn HT_.out 22 33 ?_
   refine Rgn.pn HT_.out 23 34 ?_
   refine Rgn.pn HT_.out 24 35 ?_
   refine Rgn.pu HT_.out 25 36 ?_
   refine done_ (done_of HT_.out (by kernel_rfl)) ?_
   try go_wp2
   go_ret
   exact ⟨by first | rfl | (simp [errW_none, errW_some] <;> rfl) | (simp [*, errW_none, errW_some] <;> rfl), _, _, (Rgn.kb BK356.out), by (with_reducible repeat (first | apply Kd.R_alloc | apply Kd.R_drewN | apply Kd.R_drew)); exact HO0_0.out, by (with_reducible repeat (first | apply Kd.S_alloc | apply Kd.S_drewN | apply Kd.S_drew)); exact Kd.S_mono HO0_1.out (fun _ hk => ⟨hk.1.1.1, hk.1.1.2⟩), Rgn.bq HB.out, by repeat (first | (with_reducible first | exact HK.out | apply Kept.alloc | apply Kept.drewN | apply Kept.drew | refine Kept.setCell ?_ (.inl (.inr rfl)) _ | refine Kept.setCell ?_ (.inr GW357.out) _) | exact HK.out)⟩
  ·
   rw [if_neg c4] at H
   have c4b0 : decide (600 ≤ (l0_1.length : Int)) = false := decide_eq_false c4
   have c4b1 : decide (600 ≤ l0_1.length) = false := decide_eq_false (by omega)
   clear c4
   by_cases c11 : a1_1 < 0
   ·
    rw [if_pos c11] at H
    have c11b0 : decide (a1_1 < 0) = true := decide_eq_true c11
    clear c11
    simp only [Option.some.injEq, Prod.mk.injEq] at H
    obtain ⟨rfl, rfl, rfl⟩ := H
    obtain ⟨Ao12, co12, eo12⟩ := Kd.R_slice HO0_0.out
    subst eo12
    go_enter Try.func85, Try.ntmps85
    try go_wp2_with (first | ((with_reducible refine gate_dst (N := 3) rfl ?_); (try (refine gate_guard (by rfl) ?_; dsimp only)); refine Rgn.bx 3 #[.int .i64 a1_0, .int .i64 a1_1, .slice A1_2 l1_2.length c1_2] 93 ?_; intro gb357 hg w14 hbox hb; replace HO0_0 := Aside0.mk (Kd.R_below (Rgn.rq HO0_0.out) hb); replace HO0_1 := Aside0.mk (Kd.S_below (Kd.S_elderB (Rgn.sq HO0_1.out) gb357 (Nat.le_of_eq hg.symm)) hb); have BK357 := Aside0.mk (hbox); have GW357 := Aside0.mk ((by rw [hg]; exact (by first | exact HK.out.1 | exact (show Kept w _ (fun k_ => (P0_0_ k_ ∨ P0_1_ k_) ∨ k_ = gb356) from by repeat (first | (with_reducible first | exact HK.out | apply Kept.alloc | apply Kept.drewN | apply Kept.drew | refine Kept.setCell ?_ (.inl (.inr rfl)) _) | exact HK.out)).1) : w.heap.size ≤ gb357)); replace HK := Aside0.mk (Kept.below (S := (fun k_ => (P0_0_ k_ ∨ P0_1_ k_) ∨ k_ = gb356)) (by repeat (first | (with_reducible first | exact HK.out | apply Kept.alloc | apply Kept.drewN | apply Kept.drew | refine Kept.setCell ?_ (.inl (.inr rfl)) _) | exact HK.out)) hb); have GE357 := Aside0.mk (Rgn.ge hg HB.out); replace HB := Aside0.mk (below_step (Rgn.bq HB.out) hb); have NB356_357 := Aside0.mk (Rgn.nl hg BK356.out); have NB357_356 := Aside0.mk (Rgn.ng hg BK356.out); replace BK356 := Aside0.mk (Rgn.bb BK356.out hb); clear hb hbox hg; have hnb15 := NB357_356.out; have hnc15 := NB356_357.out; obtain ⟨hcz16_0, hcz16_1, hcz16_2, hfz16_0, hfz16_1, hfz16_2⟩ := Rgn.c3 BK357.out))
    replace HO0_0 := Aside0.mk (Kd.R_drew HO0_0.out)
    replace HO0_1 := Aside0.mk (Kd.S_drew HO0_1.out)
    replace BK356 := Aside0.mk (blk_drew BK356.out)
    replace BK357 := Aside0.mk (blk_drew BK357.out)
    replace HK := Aside0.mk (Kept.drew HK.out)
    replace HB := Aside0.mk (below_drew1 HB.out)
    refine start_ (n := 26) (S := fun w' => w'.cell? ⟨gb356, 0, none⟩ = some (.slice Ao12 l0_0.length co12) ∧ w'.cell? ⟨gb356, 1, none⟩ = some (.slice A0_1 l0_1.length c0_1) ∧ w'.cell? ⟨gb357, 0, none⟩ = some (.int .i64 a1_0) ∧ w'.cell? ⟨gb357, 1, none⟩ = some (.int .i64 a1_1) ∧ w'.cell? ⟨gb357, 2, none⟩ = some (.slice A1_2 l1_2.length c1_2)) (ds := []) #[false, false, false, false, false, false, false, false, false, false, false, false, false, false, false, false, false, false, false, false, false, false, false, false, false, false] (by kernel_rfl) rfl rfl ⟨(blk_cell BK356.out 0).trans rfl, (blk_cell BK356.out 1).trans rfl, (blk_cell BK357.out 0).trans rfl, (blk_cell BK357.out 1).trans rfl, (blk_cell BK357.out 2).trans rfl⟩ (fun hHeld => ?_); refine with_tabW impl_do.tab3 impl_do.bits3 (fun HT_ HW_ => ?_)
    generalize w14.drew = w17 at HO0_0 HO0_1 BK356 BK357 HK HB hHeld ⊢
    refine Rgn.pu HT_.out 0 11 ?_
    refine Rgn.pu HT_.out 1 12 ?_
    refine Rgn.pu HT_.out 2 13 ?_
    refine Rgn.tk HT_.out HW_.out 3 14 hHeld ?_
    refine Rgn.pu HT_.out 4 15 ?_
    refine Rgn.pu HT_.out 5 16 ?_
    refine Rgn.pu HT_.out 6 17 ?_
    refine Rgn.pu HT_.out 7 18 ?_
    refine Rgn.tk HT_.out HW_.out 8 19 hHeld ?_
    refine Rgn.pu HT_.out 9 20 ?_
    refine Rgn.pu HT_.out 10 21 ?_
    refine Rgn.pu HT_.out 11 22 ?_
    refine Rgn.pn HT_.out 12 23 ?_
    refine Rgn.pn HT_.out 13 24 ?_
    refine Rgn.pn HT_.out 14 25 ?_
    refine Rgn.pn HT_.out 15 26 ?_
    refine Rgn.pn HT_.out 16 27 ?_
    refine Rgn.pn HT_.out 17 28 ?_
    refine Rgn.pn HT_.out 18 29 ?_
    refine Rgn.pu HT_.out 19 30 ?_
    refine Rgn.pu HT_.out 20 31 ?_
    refine Rgn.pn HT_.out 21 32 ?_
    refine Rgn.pn HT_.out 22 33 ?_
    refine Rgn.pn HT_.out 23 34 ?_
    refine Rgn.pn HT_.out 24 35 ?_
    refine Rgn.pu HT_.out 25 36 ?_
    refine done_ (done_of HT_.out (by kernel_rfl)) ?_
    try go_wp2
    go_ret
    exact ⟨by first | rfl | (simp [errW_none, errW_some] <;> rfl) | (simp [*, errW_none, errW_some] <;> rfl), _, _, (Rgn.kb BK356.out), by (with_reducible repeat (first | apply Kd.R_alloc | apply Kd.R_drewN | apply Kd.R_drew)); exact HO0_0.out, by (with_reducible repeat (first | apply Kd.S_alloc | apply Kd.S_drewN | apply Kd.S_drew)); exact Kd.S_mono HO0_1.out (fun _ hk => ⟨hk.1.1.1, hk.1.1.2⟩), Rgn.bq HB.out, by repeat (first | (with_reducible first | exact HK.out | apply Kept.alloc | apply Kept.drewN | apply Kept.drew | refine Kept.setCell ?_ (.inl (.inr rfl)) _ | refine Kept.setCell ?_ (.inr GW357.out) _) | exact HK.out)⟩
   ·
    rw [if_neg c11] at H
    have c11b0 : decide (a1_1 < 0) = false := decide_eq_false c11
    clear c11
    replace H := Option.bind_eq_some_iff.mp H
    obtain ⟨t358, A180, H⟩ := H
    replace H : (if a1_1 ≥ t358 then (some (l0_0, l0_1, false)) else (if (l1_2.length : Int) = 64 then ((impl_cp.f l1_2).bind fun t359 => (if l0_1.length < 4398046511104 then (some (l0_0, (l0_1 ++ [(⟨a1_1, t359⟩ : S62)]), true)) else (none))) else (some (l0_0, l0_1, false)))) = some (r1, r2, r3) := H
    have A18 := Aside0.mk A180
    clear A180
    by_cases c19 : a1_1 ≥ t358
    ·
     rw [if_pos c19] at H
     have c19b0 : decide (t358 ≤ a1_1) = true := decide_eq_true c19
     clear c19
     simp only [Option.some.injEq, Prod.mk.injEq] at H
     obtain ⟨rfl, rfl, rfl⟩ := H
     obtain ⟨Ao20, co20, eo20⟩ := Kd.R_slice HO0_0.out
     subst eo20
     go_enter Try.func85, Try.ntmps85
     try go_wp2_with (first | ((with_reducible refine gate_dst (N := 3) rfl ?_); (try (refine gate_guard (by rfl) ?_; dsimp only)); refine Rgn.bx 3 #[.int .i64 a1_0, .int .i64 a1_1, .slice A1_2 l1_2.length c1_2] 93 ?_; intro gb357 hg w22 hbox hb; replace HO0_0 := Aside0.mk (Kd.R_below (Rgn.rq HO0_0.out) hb); replace HO0_1 := Aside0.mk (Kd.S_below (Kd.S_elderB (Rgn.sq HO0_1.out) gb357 (Nat.le_of_eq hg.symm)) hb); have BK357 := Aside0.mk (hbox); have GW357 := Aside0.mk ((by rw [hg]; exact (by first | exact HK.out.1 | exact (show Kept w _ (fun k_ => (P0_0_ k_ ∨ P0_1_ k_) ∨ k_ = gb356) from by repeat (first | (with_reducible first | exact HK.out | apply Kept.alloc | apply Kept.drewN | apply Kept.drew | refine Kept.setCell ?_ (.inl (.inr rfl)) _) | exact HK.out)).1) : w.heap.size ≤ gb357)); replace HK := Aside0.mk (Kept.below (S := (fun k_ => (P0_0_ k_ ∨ P0_1_ k_) ∨ k_ = gb356)) (by repeat (first | (with_reducible first | exact HK.out | apply Kept.alloc | apply Kept.drewN | apply Kept.drew | refine Kept.setCell ?_ (.inl (.inr rfl)) _) | exact HK.out)) hb); have GE357 := Aside0.mk (Rgn.ge hg HB.out); replace HB := Aside0.mk (below_step (Rgn.bq HB.out) hb); have NB356_357 := Aside0.mk (Rgn.nl hg BK356.out); have NB357_356 := Aside0.mk (Rgn.ng hg BK356.out); replace BK356 := Aside0.mk (Rgn.bb BK356.out hb); clear hb hbox hg; have hnb23 := NB357_356.out; have hnc23 := NB356_357.out; obtain ⟨hcz24_0, hcz24_1, hcz24_2, hfz24_0, hfz24_1, hfz24_2⟩ := Rgn.c3 BK357.out))
     replace HO0_0 := Aside0.mk (Kd.R_drew HO0_0.out)
     replace HO0_1 := Aside0.mk (Kd.S_drew HO0_1.out)
     replace BK356 := Aside0.mk (blk_drew BK356.out)
     replace BK357 := Aside0.mk (blk_drew BK357.out)
     replace HK := Aside0.mk (Kept.drew HK.out)
     replace HB := Aside0.mk (below_drew1 HB.out)
     refine start_ (n := 26) (S := fun w' => w'.cell? ⟨gb356, 0, none⟩ = some (.slice Ao20 l0_0.length co20) ∧ w'.cell? ⟨gb356, 1, none⟩ = some (.slice A0_1 l0_1.length c0_1) ∧ w'.cell? ⟨gb357, 0, none⟩ = some (.int .i64 a1_0) ∧ w'.cell? ⟨gb357, 1, none⟩ = some (.int .i64 a1_1) ∧ w'.cell? ⟨gb357, 2, none⟩ = some (.slice A1_2 l1_2.length c1_2)) (ds := []) #[false, false, false, false, false, false, false, false, false, false, false, false, false, false, false, false, false, false, false, false, false, false, false, false, false, false] (by kernel_rfl) rfl rfl ⟨(blk_cell BK356.out 0).trans rfl, (blk_cell BK356.out 1).trans rfl, (blk_cell BK357.out 0).trans rfl, (blk_cell BK357.out 1).trans rfl, (blk_cell BK357.out 2).trans rfl⟩ (fun hHeld => ?_); refine with_tabW impl_do.tab3 impl_do.bits3 (fun HT_ HW_ => ?_)
     generalize w22.drew = w25 at HO0_0 HO0_1 BK356 BK357 HK HB hHeld ⊢
     refine Rgn.pu HT_.out 0 11 ?_
     refine Rgn.pu HT_.out 1 12 ?_
     refine Rgn.pu HT_.out 2 13 ?_
     refine Rgn.tk HT_.out HW_.out 3 14 hHeld ?_
     refine Rgn.pu HT_.out 4 15 ?_
     refine Rgn.pu HT_.out 5 16 ?_
     refine Rgn.pu HT_.out 6 17 ?_
     refine Rgn.pu HT_.out 7 18 ?_
     refine Rgn.tk HT_.out HW_.out 8 19 hHeld ?_
     refine Rgn.pu HT_.out 9 20 ?_
     refine Rgn.pu HT_.out 10 21 ?_
     refine Rgn.pu HT_.out 11 22 ?_
     refine Rgn.pu HT_.out 12 23 ?_
     refine Rgn.pu HT_.out 14 25 ?_
     refine Rgn.pu HT_.out 15 26 ?_
     refine Rgn.tk HT_.out HW_.out 13 24 hHeld ?_
     refine Rgn.tk HT_.out HW_.out 16 27 hHeld ?_
     refine one_ (i := 17) (N := some 28) #[true, true, true, true, true, true, true, true, true, true, true, true, true, true, true, true, true, true, false, false, false, false, false, false, false, false] rfl rfl (one_of HT_.out (by kernel_rfl)) (by decide) (fun K hK => ?_)
     refine Rgn.gs Try.func73 #[.agg #[.slice Ao20 l0_0.length co20, .slice A0_1 l0_1.length c0_1]] ?_
     with_reducible refine (impl_nb.calls _ _ l0_0 _ _ l0_1 t358 _ ?side1 ?side2 ?side3 ?side4 A18.out).mono ?_
     (case side1 => repeat (first | exact (Kd.R_reads' HO0_0.out).2.2 | (with_reducible refine Kd.C_alloc ?_ _) | (with_reducible refine Kd.C_drewN ?_ _) | (with_reducible refine Kd.C_drew ?_)))
     (case side2 => exact (Kd.R_reads' HO0_0.out).2.1)
     (case side3 => repeat (first | exact (Kd.S_reads' HO0_1.out).2.2 | (with_reducible refine Kd.C_alloc ?_ _) | (with_reducible refine Kd.C_drewN ?_ _) | (with_reducible refine Kd.C_drew ?_)))
     (case side4 => exact (Kd.S_reads' HO0_1.out).2.1)
     rintro e w26 ⟨rfl, hb⟩
     refine ⟨_, rfl, ?_⟩
     replace HO0_0 := Aside0.mk (Kd.R_below (Rgn.rq HO0_0.out) hb)
     replace HO0_1 := Aside0.mk (Kd.S_below (Rgn.sq HO0_1.out) hb)
     replace BK356 := Aside0.mk (Rgn.bb BK356.out hb)
     replace BK357 := Aside0.mk (Rgn.bb BK357.out hb)
     replace HK := Aside0.mk (Kept.below (S := (fun k_ => (P0_0_ k_ ∨ P0_1_ k_) ∨ k_ = gb356)) (by repeat (first | (with_reducible first | exact HK.out | apply Kept.alloc | apply Kept.drewN | apply Kept.drew | refine Kept.setCell ?_ (.inl (.inr rfl)) _ | refine Kept.setCell ?_ (.inr GW357.out) _) | exact HK.out)) hb)
     replace HB := Aside0.mk (below_step (Rgn.bq HB.out) hb)
     (try clear hb)
     skip
     skip
     skip
     refine hK.out _ _ ⟨(blk_cell BK356.out 0).trans rfl, (blk_cell BK356.out 1).trans rfl, (blk_cell BK357.out 0).trans rfl, (blk_cell BK357.out 1).trans rfl, (blk_cell BK357.out 2).trans rfl⟩ (fun hHeld => ?_)
     clear hK K
     refine norm_ (a' := ?_) ?_ ?_
     rotate_left
     ·
      show Act.put _ (some 28) _ = _
      simp only [Act.put, List.setIfInBounds_toArray, List.set_cons_zero, List.set_cons_succ, i64_w, i32_w]
      rfl
     refine Rgn.pu HT_.out 18 29 ?_
     refine Rgn.pu HT_.out 19 30 ?_
     refine Rgn.pu HT_.out 20 31 ?_
     refine Rgn.pn HT_.out 21 32 ?_
     refine Rgn.pn HT_.out 22 33 ?_
     refine Rgn.pn HT_.out 23 34 ?_
     refine Rgn.pn HT_.out 24 35 ?_
     refine Rgn.pu HT_.out 25 36 ?_
     refine done_ (done_of HT_.out (by kernel_rfl)) ?_
     try go_wp2
     go_ret
     exact ⟨by first | rfl | (simp [errW_none, errW_some] <;> rfl) | (simp [*, errW_none, errW_some] <;> rfl), _, _, (Rgn.kb BK356.out), by (with_reducible repeat (first | apply Kd.R_alloc | apply Kd.R_drewN | apply Kd.R_drew)); exact HO0_0.out, by (with_reducible repeat (first | apply Kd.S_alloc | apply Kd.S_drewN | apply Kd.S_drew)); exact Kd.S_mono HO0_1.out (fun _ hk => ⟨hk.1.1.1, hk.1.1.2⟩), Rgn.bq HB.out, by repeat (first | (with_reducible first | exact HK.out | apply Kept.alloc | apply Kept.drewN | apply Kept.drew | refine Kept.setCell ?_ (.inl (.inr rfl)) _ | refine Kept.setCell ?_ (.inr GW357.out) _) | exact HK.out)⟩
    ·
     rw [if_neg c19] at H
     have c19b0 : decide (t358 ≤ a1_1) = false := decide_eq_false c19
     clear c19
     by_cases c27 : (l1_2.length : Int) = 64
     ·
      rw [if_pos c27] at H
      have c27b0 : ((l1_2.length : Int) == 64) = true := beq_iff_eq.mpr c27
      have c27b1 : ((l1_2.length : Int) != 64) = false := bne_eq_false_iff_eq.mpr c27
      clear c27
      replace H := Option.bind_eq_some_iff.mp H
      obtain ⟨t359, A280, H⟩ := H
      replace H : (if l0_1.length < 4398046511104 then (some (l0_0, (l0_1 ++ [(⟨a1_1, t359⟩ : S62)]), true)) else (none)) = some (r1, r2, r3) := H
      have A28 := Aside0.mk A280
      clear A280
      by_cases cLM : l0_1.length < 4398046511104
      rotate_left
      ·
       rw [if_neg cLM] at H; cases H
      rw [if_pos cLM] at H
      have LMc := Aside0.mk cLM
      clear cLM
      obtain ⟨y362, hy362⟩ : ∃ y_ : List (S62), y_ = (l0_1 ++ [(⟨a1_1, t359⟩ : S62)]) := ⟨_, rfl⟩
      replace H : (some (l0_0, y362, true)) = some (r1, r2, r3) := by first | (rw [hy362]; with_reducible exact H) | (have H2_ := (Option.bind_some _ _).symm.trans H; rw [hy362]; with_reducible exact H2_) | (have H2_ := (Option.bind_some _ _).symm.trans H; with_reducible exact H2_) | with_reducible exact H | (rw [hy362]; exact H) | exact H
      have Ny362 := Aside0.mk hy362
      clear hy362
      simp only [Option.some.injEq, Prod.mk.injEq] at H
      obtain ⟨rfl, rfl, rfl⟩ := H
      obtain ⟨Ao29, co29, eo29⟩ := Kd.R_slice HO0_0.out
      subst eo29
      go_enter Try.func85, Try.ntmps85
      try go_wp2_with (first | ((with_reducible refine gate_dst (N := 3) rfl ?_); (try (refine gate_guard (by rfl) ?_; dsimp only)); refine Rgn.bx 3 #[.int .i64 a1_0, .int .i64 a1_1, .slice A1_2 l1_2.length c1_2] 93 ?_; intro gb357 hg w31 hbox hb; replace HO0_0 := Aside0.mk (Kd.R_below (Rgn.rq HO0_0.out) hb); replace HO0_1 := Aside0.mk (Kd.S_below (Kd.S_elderB (Rgn.sq HO0_1.out) gb357 (Nat.le_of_eq hg.symm)) hb); have BK357 := Aside0.mk (hbox); have GW357 := Aside0.mk ((by rw [hg]; exact (by first | exact HK.out.1 | exact (show Kept w _ (fun k_ => (P0_0_ k_ ∨ P0_1_ k_) ∨ k_ = gb356) from by repeat (first | (with_reducible first | exact HK.out | apply Kept.alloc | apply Kept.drewN | apply Kept.drew | refine Kept.setCell ?_ (.inl (.inr rfl)) _) | exact HK.out)).1) : w.heap.size ≤ gb357)); replace HK := Aside0.mk (Kept.below (S := (fun k_ => (P0_0_ k_ ∨ P0_1_ k_) ∨ k_ = gb356)) (by repeat (first | (with_reducible first | exact HK.out | apply Kept.alloc | apply Kept.drewN | apply Kept.drew | refine Kept.setCell ?_ (.inl (.inr rfl)) _) | exact HK.out)) hb); have GE357 := Aside0.mk (Rgn.ge hg HB.out); replace HB := Aside0.mk (below_step (Rgn.bq HB.out) hb); have NB356_357 := Aside0.mk (Rgn.nl hg BK356.out); have NB357_356 := Aside0.mk (Rgn.ng hg BK356.out); replace BK356 := Aside0.mk (Rgn.bb BK356.out hb); clear hb hbox hg; have hnb32 := NB357_356.out; have hnc32 := NB356_357.out; obtain ⟨hcz33_0, hcz33_1, hcz33_2, hfz33_0, hfz33_1, hfz33_2⟩ := Rgn.c3 BK357.out))
      replace HO0_0 := Aside0.mk (Kd.R_drew HO0_0.out)
      replace HO0_1 := Aside0.mk (Kd.S_drew HO0_1.out)
      replace BK356 := Aside0.mk (blk_drew BK356.out)
      replace BK357 := Aside0.mk (blk_drew BK357.out)
      replace HK := Aside0.mk (Kept.drew HK.out)
      replace HB := Aside0.mk (below_drew1 HB.out)
      refine start_ (n := 26) (S := fun w' => w'.cell? ⟨gb356, 0, none⟩ = some (.slice Ao29 l0_0.length co29) ∧ w'.cell? ⟨gb356, 1, none⟩ = some (.slice A0_1 l0_1.length c0_1) ∧ w'.cell? ⟨gb357, 0, none⟩ = some (.int .i64 a1_0) ∧ w'.cell? ⟨gb357, 1, none⟩ = some (.int .i64 a1_1) ∧ w'.cell? ⟨gb357, 2, none⟩ = some (.slice A1_2 l1_2.length c1_2)) (ds := []) #[false, false, false, false, false, false, false, false, false, false, false, false, false, false, false, false, false, false, false, false, false, false, false, false, false, false] (by kernel_rfl) rfl rfl ⟨(blk_cell BK356.out 0).trans rfl, (blk_cell BK356.out 1).trans rfl, (blk_cell BK357.out 0).trans rfl, (blk_cell BK357.out 1).trans rfl, (blk_cell BK357.out 2).trans rfl⟩ (fun hHeld => ?_); refine with_tabW impl_do.tab3 impl_do.bits3 (fun HT_ HW_ => ?_)
      generalize w31.drew = w34 at HO0_0 HO0_1 BK356 BK357 HK HB hHeld ⊢
      refine Rgn.pu HT_.out 0 11 ?_
      refine Rgn.pu HT_.out 1 12 ?_
      refine Rgn.pu HT_.out 2 13 ?_
      refine Rgn.tk HT_.out HW_.out 3 14 hHeld ?_
      refine Rgn.pu HT_.out 4 15 ?_
      refine Rgn.pu HT_.out 5 16 ?_
      refine Rgn.pu HT_.out 6 17 ?_
      refine Rgn.pu HT_.out 7 18 ?_
      refine Rgn.tk HT_.out HW_.out 8 19 hHeld ?_
      refine Rgn.pu HT_.out 9 20 ?_
      refine Rgn.pu HT_.out 10 21 ?_
      refine Rgn.pu HT_.out 11 22 ?_
      refine Rgn.pu HT_.out 12 23 ?_
      refine Rgn.pu HT_.out 14 25 ?_
      refine Rgn.pu HT_.out 15 26 ?_
      refine Rgn.tk HT_.out HW_.out 13 24 hHeld ?_
      refine Rgn.tk HT_.out HW_.out 16 27 hHeld ?_
      refine one_ (i := 17) (N := some 28) #[true, true, true, true, true, true, true, true, true, true, true, true, true, true, true, true, true, true, false, false, false, false, false, false, false, false] rfl rfl (one_of HT_.out (by kernel_rfl)) (by decide) (fun K hK => ?_)
      refine Rgn.gs Try.func73 #[.agg #[.slice Ao29 l0_0.length co29, .slice A0_1 l0_1.length c0_1]] ?_
      with_reducible refine (impl_nb.calls _ _ l0_0 _ _ l0_1 t358 _ ?side1 ?side2 ?side3 ?side4 A18.out).mono ?_
      (case side1 => repeat (first | exact (Kd.R_reads' HO0_0.out).2.2 | (with_reducible refine Kd.C_alloc ?_ _) | (with_reducible refine Kd.C_drewN ?_ _) | (with_reducible refine Kd.C_drew ?_)))
      (case side2 => exact (Kd.R_reads' HO0_0.out).2.1)
      (case side3 => repeat (first | exact (Kd.S_reads' HO0_1.out).2.2 | (with_reducible refine Kd.C_alloc ?_ _) | (with_reducible refine Kd.C_drewN ?_ _) | (with_reducible refine Kd.C_drew ?_)))
      (case side4 => exact (Kd.S_reads' HO0_1.out).2.1)
      rintro e w35 ⟨rfl, hb⟩
      refine ⟨_, rfl, ?_⟩
      replace HO0_0 := Aside0.mk (Kd.R_below (Rgn.rq HO0_0.out) hb)
      replace HO0_1 := Aside0.mk (Kd.S_below (Rgn.sq HO0_1.out) hb)
      replace BK356 := Aside0.mk (Rgn.bb BK356.out hb)
      replace BK357 := Aside0.mk (Rgn.bb BK357.out hb)
      replace HK := Aside0.mk (Kept.below (S := (fun k_ => (P0_0_ k_ ∨ P0_1_ k_) ∨ k_ = gb356)) (by repeat (first | (with_reducible first | exact HK.out | apply Kept.alloc | apply Kept.drewN | apply Kept.drew | refine Kept.setCell ?_ (.inl (.inr rfl)) _ | refine Kept.setCell ?_ (.inr GW357.out) _) | exact HK.out)) hb)
      replace HB := Aside0.mk (below_step (Rgn.bq HB.out) hb)
      (try clear hb)
      skip
      skip
      skip
      refine hK.out _ _ ⟨(blk_cell BK356.out 0).trans rfl, (blk_cell BK356.out 1).trans rfl, (blk_cell BK357.out 0).trans rfl, (blk_cell BK357.out 1).trans rfl, (blk_cell BK357.out 2).trans rfl⟩ (fun hHeld => ?_)
      clear hK K
      refine norm_ (a' := ?_) ?_ ?_
      rotate_left
      ·
       show Act.put _ (some 28) _ = _
       simp only [Act.put, List.setIfInBounds_toArray, List.set_cons_zero, List.set_cons_succ, i64_w, i32_w]
       rfl
      refine Rgn.pu HT_.out 18 29 ?_
      refine Rgn.pu HT_.out 19 30 ?_
      refine Rgn.pu HT_.out 20 31 ?_
      refine Rgn.pu HT_.out 21 32 ?_
      refine Rgn.tk HT_.out HW_.out 22 33 hHeld ?_
      refine Rgn.pu HT_.out 23 34 ?_
      refine Rgn.pu HT_.out 24 35 ?_
      refine Rgn.pu HT_.out 25 36 ?_
      refine done_ (done_of HT_.out (by kernel_rfl)) ?_
      try go_wp2
      replace HO0_0 := Aside0.mk (Kd.R_drew HO0_0.out)
      replace HO0_1 := Aside0.mk (Kd.S_drew HO0_1.out)
      replace BK356 := Aside0.mk (blk_drew BK356.out)
      replace BK357 := Aside0.mk (blk_drew BK357.out)
      replace HK := Aside0.mk (Kept.drew HK.out)
      replace HB := Aside0.mk (below_drew1 HB.out)
      refine start_ (n := 16) (S := fun w' => w'.cell? ⟨gb356, 0, none⟩ = some (.slice Ao29 l0_0.length co29) ∧ w'.cell? ⟨gb356, 1, none⟩ = some (.slice A0_1 l0_1.length c0_1) ∧ w'.cell? ⟨gb357, 0, none⟩ = some (.int .i64 a1_0) ∧ w'.cell? ⟨gb357, 1, none⟩ = some (.int .i64 a1_1) ∧ w'.cell? ⟨gb357, 2, none⟩ = some (.slice A1_2 l1_2.length c1_2)) (ds := [15]) #[false, false, false, false, false, false, false, false, false, false, false, false, false, false, false, false] (by kernel_rfl) rfl rfl ⟨(blk_cell BK356.out 0).trans rfl, (blk_cell BK356.out 1).trans rfl, (blk_cell BK357.out 0).trans rfl, (blk_cell BK357.out 1).trans rfl, (blk_cell BK357.out 2).trans rfl⟩ (fun hHeld => ?_); refine with_tabW impl_do.tab5 impl_do.bits5 (fun HT_ HW_ => ?_)
      generalize w35.drew = w36 at HO0_0 HO0_1 BK356 BK357 HK HB hHeld ⊢
      refine Rgn.pu HT_.out 0 37 ?_
      refine Rgn.pu HT_.out 1 38 ?_
      refine Rgn.pu HT_.out 2 39 ?_
      refine Rgn.pu HT_.out 3 40 ?_
      refine Rgn.pu HT_.out 5 42 ?_
      refine Rgn.pu HT_.out 7 44 ?_
      refine Rgn.tk HT_.out HW_.out 4 41 hHeld ?_
      refine Rgn.tk HT_.out HW_.out 6 43 hHeld ?_
      refine Rgn.tk HT_.out HW_.out 8 45 hHeld ?_
      refine one_ (i := 9) (N := some 46) #[true, true, true, true, true, true, true, true, true, true, false, false, false, false, false, false] rfl rfl (one_of HT_.out (by kernel_rfl)) (by decide) (fun K hK => ?_)
      refine Rgn.gs Try.func77 #[.slice A1_2 l1_2.length c1_2] ?_
      with_reducible refine (impl_cp.calls _ _ l1_2 t359 _ ?side1 ?side2 A28.out).mono ?_
      (case side1 => exact Kd.C_kept_now HR1_2.out (by repeat (first | (with_reducible first | exact HK.out | apply Kept.alloc | apply Kept.drewN | apply Kept.drew | refine Kept.setCell ?_ (.inl (.inr rfl)) _ | refine Kept.setCell ?_ (.inr GW357.out) _) | exact HK.out)))
      (case side2 => exact HC1_2.out)
      rintro e w37 ⟨v360, rfl, ho0, hb⟩
      refine ⟨_, rfl, ?_⟩
      replace HO0_1 := Aside0.mk (Kd.S_elder' (Rgn.sq HO0_1.out) (Kd.R_base ho0) hb)
      have HO361 := Aside0.mk (Kd.R_lower (Kd.R_new' (Kd.R_newM (M := fun k_ => (P0_0_ k_ ∨ w.heap.size ≤ k_)) ho0 (by first | exact HK.out.1 | exact (show Kept w _ (fun k_ => (P0_0_ k_ ∨ P0_1_ k_) ∨ k_ = gb356) from by repeat (first | (with_reducible first | exact HK.out | apply Kept.alloc | apply Kept.drewN | apply Kept.drew | refine Kept.setCell ?_ (.inl (.inr rfl)) _ | refine Kept.setCell ?_ (.inr GW357.out) _) | exact HK.out)).1) (fun k_ h_ => .inr h_)) (Kd.R_lt (Rgn.rq HO0_0.out))) (below_size (Rgn.bq HB.out)))
      replace HO0_0 := Aside0.mk (Kd.R_elder' (Rgn.rq HO0_0.out) (Kd.R_base ho0) hb)
      replace BK356 := Aside0.mk (Rgn.bb BK356.out hb)
      replace BK357 := Aside0.mk (Rgn.bb BK357.out hb)
      replace HK := Aside0.mk (Kept.below (S := (fun k_ => (P0_0_ k_ ∨ P0_1_ k_) ∨ k_ = gb356)) (by repeat (first | (with_reducible first | exact HK.out | apply Kept.alloc | apply Kept.drewN | apply Kept.drew | refine Kept.setCell ?_ (.inl (.inr rfl)) _ | refine Kept.setCell ?_ (.inr GW357.out) _) | exact HK.out)) hb)
      replace HB := Aside0.mk (below_step (Rgn.bq HB.out) hb)
      (try clear hb)
      skip
      skip
      skip
      (try clear ho0)
      obtain ⟨Ao38, co38, eo38⟩ := Kd.R_slice HO361.out
      (first | subst eo38 | (injection eo38 with f1_ f2_ f3_; have f4_ := f1_.symm; have f5_ := f3_.symm; clear f1_ f2_ f3_; subst f4_; subst f5_))
      refine hK.out _ _ ⟨(blk_cell BK356.out 0).trans rfl, (blk_cell BK356.out 1).trans rfl, (blk_cell BK357.out 0).trans rfl, (blk_cell BK357.out 1).trans rfl, (blk_cell BK357.out 2).trans rfl⟩ (fun hHeld => ?_)
      clear hK K
      refine norm_ (a' := ?_) ?_ ?_
      rotate_left
      ·
       show Act.put _ (some 46) _ = _
       simp only [Act.put, List.setIfInBounds_toArray, List.set_cons_zero, List.set_cons_succ, i64_w, i32_w]
       rfl
      refine Rgn.pu HT_.out 10 47 ?_
      refine one_ (i := 11) (N := some 48) #[true, true, true, true, true, true, true, true, true, true, true, true, false, false, false, false] rfl rfl (one_of HT_.out (by kernel_rfl)) (by decide) (fun K hK => ?_)
      refine value_ (w1 := ?_) (v := ?_) (by rfl) rfl ?_ ?_
      rotate_left 2
      ·
       go_simp
       constructor
       ·
        rfl
       ·
        rfl
      refine hK.out _ _ ⟨(blk_cell (blk_alloc BK356.out _) 0).trans rfl, (blk_cell (blk_alloc BK356.out _) 1).trans rfl, (blk_cell (blk_alloc BK357.out _) 0).trans rfl, (blk_cell (blk_alloc BK357.out _) 1).trans rfl, (blk_cell (blk_alloc BK357.out _) 2).trans rfl⟩ (fun hHeld => ?_)
      clear hK K
      refine norm_ (a' := ?_) ?_ ?_
      rotate_left
      ·
       show Act.put _ (some 48) _ = _
       simp only [Act.put, List.setIfInBounds_toArray, List.set_cons_zero, List.set_cons_succ, i64_w, i32_w]
       rfl
      refine one_ (i := 12) (N := some 49) #[true, true, true, true, true, true, true, true, true, true, true, true, true, false, false, false] rfl rfl (one_of HT_.out (by kernel_rfl)) (by decide) (fun K hK => ?_)
      refine Kd.S_append_step k62 (w0 := w0) w0.heap.size (by rfl) (.tmp 41) (.tmp 48) 27 62 (.agg #[(.int .i64 0), (.slice none 0 0)]) 32 rfl Try.underlying27 info62 rfl (by decide) (by omega) (.slice A0_1 l0_1.length c0_1) l0_1 (⟨a1_1, t359⟩ : S62) [.int .i64 a1_1, .slice Ao38 t359.length co38] (fun k_ => ((P0_0_ k_ ∨ P0_1_ k_) ∨ w.heap.size ≤ k_) ∧ some k_ ≠ (.slice Ao29 l0_0.length co29 : Value).ownBlock ∧ k_ ≠ gb356 ∧ k_ ≠ gb357) (fun k_ => some k_ = (.slice Ao38 t359.length co38 : Value).ownBlock) rfl rfl ?aP (fun k_ hk_ => (Kd.R_mono (ok' := fun k_ => (fun k_ => ((P0_0_ k_ ∨ P0_1_ k_) ∨ w.heap.size ≤ k_) ∧ some k_ ≠ (.slice Ao29 l0_0.length co29 : Value).ownBlock ∧ k_ ≠ gb356 ∧ k_ ≠ gb357) k_ ∧ some k_ ≠ (.slice A0_1 l0_1.length c0_1 : Value).ownBlock) (Kd.R_apart' (v := .slice A0_1 l0_1.length c0_1) (Kd.R_types (Kd.R_types (HO361.out) BK356.out (by decide)) BK357.out (by decide)) (Kd.S_typed HO0_1.out) (by decide)) (fun k_ hk => ⟨⟨(Or.imp_left (fun h_ => (.inl h_)) (hk.1.1.1.1.1)), hk.1.1.1.2, hk.1.1.2, hk.1.2⟩, hk.2⟩)).1 k_ hk_.symm) ?aF ?aO ?aB ?aS ?aL ?_
      (case aP => exact k62_mkM _ _ _ (⟨a1_1, t359⟩ : S62) (Kd.R_mono (Kd.R_tight rfl (Kd.R_mono (ok' := fun k_ => (fun k_ => ((P0_0_ k_ ∨ P0_1_ k_) ∨ w.heap.size ≤ k_) ∧ some k_ ≠ (.slice Ao29 l0_0.length co29 : Value).ownBlock ∧ k_ ≠ gb356 ∧ k_ ≠ gb357) k_ ∧ some k_ ≠ (.slice A0_1 l0_1.length c0_1 : Value).ownBlock) (Kd.R_apart' (v := .slice A0_1 l0_1.length c0_1) (Kd.R_types (Kd.R_types (HO361.out) BK356.out (by decide)) BK357.out (by decide)) (Kd.S_typed HO0_1.out) (by decide)) (fun k_ hk => ⟨⟨(Or.imp_left (fun h_ => (.inl h_)) (hk.1.1.1.1.1)), hk.1.1.1.2, hk.1.1.2, hk.1.2⟩, hk.2⟩))) (fun _ h_ => h_)))
      (case aB => exact (Rgn.bq HB.out))
      (case aF => exact (fun k_ hk => ⟨.inr (Nat.le_trans (HK.out.1) hk), Kd.fresh' (Kd.R_lt (Rgn.rq HO0_0.out)) k_ hk, Kd.freshB (g := gb356) (o := .cells #[.slice Ao29 l0_0.length co29, .slice A0_1 l0_1.length c0_1] 29 (0, 0)) (Rgn.kb BK356.out) k_ hk, Kd.freshB (g := gb357) (o := .cells #[.int .i64 a1_0, .int .i64 a1_1, .slice A1_2 l1_2.length c1_2] 93 (0, 0)) (Rgn.kb BK357.out) k_ hk⟩))
      (case aO => exact (Rgn.sq (Kd.S_mono HO0_1.out (fun k_ hk => ⟨(⟨hk.1.1.1.1, hk.1.1.1.2, hk.1.1.2, hk.1.2⟩ : (fun k_ => ((P0_0_ k_ ∨ P0_1_ k_) ∨ w.heap.size ≤ k_) ∧ some k_ ≠ (.slice Ao29 l0_0.length co29 : Value).ownBlock ∧ k_ ≠ gb356 ∧ k_ ≠ gb357) k_), fun e_ => hk.2 e_⟩))))
      (case aS => exact (below_size (Rgn.bq HB.out)))
      (case aL => have := LMc.out; omega)
      intro v363 w39 ho40 hb hg hat
      rw [← Ny362.out] at ho40
      have n0_ := Aside0.mk (Kd.R_over' (Rgn.rq HO0_0.out) (Kd.S_typed (Rgn.sq HO0_1.out)) (by decide) hg)
      have n1_ := Aside0.mk (ho40)
      have n3_ := Aside0.mk (Rgn.bg BK356.out hg (Kd.S_ne HO0_1.out BK356.out (by decide)))
      have n4_ := Aside0.mk (Rgn.bg BK357.out hg (Kd.S_ne HO0_1.out BK357.out (by decide)))
      have n6_ := Aside0.mk (Kept.of_grown (S := (fun k_ => (P0_0_ k_ ∨ P0_1_ k_) ∨ k_ = gb356)) hg (by repeat (first | (with_reducible first | exact HK.out | apply Kept.alloc | apply Kept.drewN | apply Kept.drew | refine Kept.setCell ?_ (.inl (.inr rfl)) _ | refine Kept.setCell ?_ (.inr GW357.out) _) | exact HK.out)) (fun k_ e_ => Or.imp_left Or.inl ((Kd.S_R HO0_1.out).1 k_ e_).1.1.1.1))
      have n7_ := Aside0.mk hb
      clear HO0_0
      clear HO0_1
      clear BK356
      clear BK357
      clear HK
      clear HB
      clear HO361
      have HO0_0 := n0_
      have HO364 := n1_
      have BK356 := n3_
      have BK357 := n4_
      have HK := n6_
      have HB := n7_
      clear n0_ n1_ n3_ n4_ n6_ n7_
      clear hb hg hat ho40
      obtain ⟨Ao41, co41, eo41⟩ := Kd.S_slice HO364.out
      (first | subst eo41 | (injection eo41 with f1_ f2_ f3_; have f4_ := f1_.symm; have f5_ := f3_.symm; clear f1_ f2_ f3_; subst f4_; subst f5_))
      refine hK.out _ _ ⟨(blk_cell BK356.out 0).trans rfl, (blk_cell BK356.out 1).trans rfl, (blk_cell BK357.out 0).trans rfl, (blk_cell BK357.out 1).trans rfl, (blk_cell BK357.out 2).trans rfl⟩ (fun hHeld => ?_)
      clear hK K
      refine norm_ (a' := ?_) ?_ ?_
      rotate_left
      ·
       show Act.put _ (some 49) _ = _
       simp only [Act.put, List.setIfInBounds_toArray, List.set_cons_zero, List.set_cons_succ, i64_w, i32_w]
       rfl
      refine Rgn.pu HT_.out 13 50 ?_
      refine Rgn.pu HT_.out 14 51 ?_
      refine last_ (i := 15) (N := none) #[true, true, true, true, true, true, true, true, true, true, true, true, true, true, true, true] rfl rfl (one_of HT_.out (by kernel_rfl)) (by decide) (fun K hK => ?_)
      have hs42 : w39.cell? ⟨gb356, 1, none⟩ = some (.slice A0_1 l0_1.length c0_1) := (blk_cell BK356.out 1).trans rfl
      have hfs42 := blk_frozen BK356.out 1
      have hns42_1 := NB357_356.out
      have hms42_1 := NB356_357.out
      refine skip_ (w1 := ?_) (by rfl) rfl ?_ ?_
      rotate_left
      ·
       go_simp
       rfl
      refine hK.out _ _ ?_
      clear hK K
      refine done_ (done_of HT_.out (by kernel_rfl)) ?_
      try go_wp2
      go_ret
      exact ⟨by first | rfl | (simp [errW_none, errW_some] <;> rfl) | (simp [*, errW_none, errW_some] <;> rfl), _, _, (by (with_reducible repeat (first | refine blk_drewN ?_ _ | refine blk_drew ?_ | refine blk_alloc ?_ _)); refine blk_put (cs := #[.slice Ao29 l0_0.length co29, .slice A0_1 l0_1.length c0_1]) ?_ 1 _ rfl; (with_reducible repeat (first | refine blk_drewN ?_ _ | refine blk_drew ?_ | refine blk_alloc ?_ _)); exact BK356.out), by (with_reducible repeat (first | apply Kd.R_alloc | apply Kd.R_drewN | apply Kd.R_drew)); exact Kd.R_mono (Kd.R_far (p := ⟨gb356, 1, none⟩) (Kd.R_types HO0_0.out BK356.out (by decide)) (fun _ hk => hk.2) (.slice Ao41 y362.length co41)) (fun _ hk => hk.1.1), by (with_reducible repeat (first | apply Kd.S_alloc | apply Kd.S_drewN | apply Kd.S_drew)); exact Kd.S_mono (Kd.S_far (p := ⟨gb356, 1, none⟩) (Kd.S_mono HO364.out (fun k_ hk => (⟨hk, hk.2.2.1⟩ : _ ∧ k_ ≠ gb356))) (fun _ hk => hk.2) (.slice Ao41 y362.length co41)) (fun _ hk => ⟨hk.1.1, hk.1.2.1⟩), Rgn.bq HB.out, by repeat (first | (with_reducible first | exact HK.out | apply Kept.alloc | apply Kept.drewN | apply Kept.drew | refine Kept.setCell ?_ (.inl (.inr rfl)) _ | refine Kept.setCell ?_ (.inr GW357.out) _) | exact HK.out)⟩
     ·
      rw [if_neg c27] at H
      have c27b0 : ((l1_2.length : Int) == 64) = false := beq_eq_false_iff_ne.mpr c27
      have c27b1 : ((l1_2.length : Int) != 64) = true := bne_iff_ne.mpr c27
      simp only [Option.some.injEq, Prod.mk.injEq] at H
      obtain ⟨rfl, rfl, rfl⟩ := H
      obtain ⟨Ao43, co43, eo43⟩ := Kd.R_slice HO0_0.out
      subst eo43
      go_enter Try.func85, Try.ntmps85
      try go_wp2_with (first | ((with_reducible refine gate_dst (N := 3) rfl ?_); (try (refine gate_guard (by rfl) ?_; dsimp only)); refine Rgn.bx 3 #[.int .i64 a1_0, .int .i64 a1_1, .slice A1_2 l1_2.length c1_2] 93 ?_; intro gb357 hg w45 hbox hb; replace HO0_0 := Aside0.mk (Kd.R_below (Rgn.rq HO0_0.out) hb); replace HO0_1 := Aside0.mk (Kd.S_below (Kd.S_elderB (Rgn.sq HO0_1.out) gb357 (Nat.le_of_eq hg.symm)) hb); have BK357 := Aside0.mk (hbox); have GW357 := Aside0.mk ((by rw [hg]; exact (by first | exact HK.out.1 | exact (show Kept w _ (fun k_ => (P0_0_ k_ ∨ P0_1_ k_) ∨ k_ = gb356) from by repeat (first | (with_reducible first | exact HK.out | apply Kept.alloc | apply Kept.drewN | apply Kept.drew | refine Kept.setCell ?_ (.inl (.inr rfl)) _) | exact HK.out)).1) : w.heap.size ≤ gb357)); replace HK := Aside0.mk (Kept.below (S := (fun k_ => (P0_0_ k_ ∨ P0_1_ k_) ∨ k_ = gb356)) (by repeat (first | (with_reducible first | exact HK.out | apply Kept.alloc | apply Kept.drewN | apply Kept.drew | refine Kept.setCell ?_ (.inl (.inr rfl)) _) | exact HK.out)) hb); have GE357 := Aside0.mk (Rgn.ge hg HB.out); replace HB := Aside0.mk (below_step (Rgn.bq HB.out) hb); have NB356_357 := Aside0.mk (Rgn.nl hg BK356.out); have NB357_356 := Aside0.mk (Rgn.ng hg BK356.out); replace BK356 := Aside0.mk (Rgn.bb BK356.out hb); clear hb hbox hg; have hnb46 := NB357_356.out; have hnc46 := NB356_357.out; obtain ⟨hcz47_0, hcz47_1, hcz47_2, hfz47_0, hfz47_1, hfz47_2⟩ := Rgn.c3 BK357.out))
      replace HO0_0 := Aside0.mk (Kd.R_drew HO0_0.out)
      replace HO0_1 := Aside0.mk (Kd.S_drew HO0_1.out)
      replace BK356 := Aside0.mk (blk_drew BK356.out)
      replace BK357 := Aside0.mk (blk_drew BK357.out)
      replace HK := Aside0.mk (Kept.drew HK.out)
      replace HB := Aside0.mk (below_drew1 HB.out)
      refine start_ (n := 26) (S := fun w' => w'.cell? ⟨gb356, 0, none⟩ = some (.slice Ao43 l0_0.length co43) ∧ w'.cell? ⟨gb356, 1, none⟩ = some (.slice A0_1 l0_1.length c0_1) ∧ w'.cell? ⟨gb357, 0, none⟩ = some (.int .i64 a1_0) ∧ w'.cell? ⟨gb357, 1, none⟩ = some (.int .i64 a1_1) ∧ w'.cell? ⟨gb357, 2, none⟩ = some (.slice A1_2 l1_2.length c1_2)) (ds := []) #[false, false, false, false, false, false, false, false, false, false, false, false, false, false, false, false, false, false, false, false, false, false, false, false, false, false] (by kernel_rfl) rfl rfl ⟨(blk_cell BK356.out 0).trans rfl, (blk_cell BK356.out 1).trans rfl, (blk_cell BK357.out 0).trans rfl, (blk_cell BK357.out 1).trans rfl, (blk_cell BK357.out 2).trans rfl⟩ (fun hHeld => ?_); refine with_tabW impl_do.tab3 impl_do.bits3 (fun HT_ HW_ => ?_)
      generalize w45.drew = w48 at HO0_0 HO0_1 BK356 BK357 HK HB hHeld ⊢
      refine Rgn.pu HT_.out 0 11 ?_
      refine Rgn.pu HT_.out 1 12 ?_
      refine Rgn.pu HT_.out 2 13 ?_
      refine Rgn.tk HT_.out HW_.out 3 14 hHeld ?_
      refine Rgn.pu HT_.out 4 15 ?_
      refine Rgn.pu HT_.out 5 16 ?_
      refine Rgn.pu HT_.out 6 17 ?_
      refine Rgn.pu HT_.out 7 18 ?_
      refine Rgn.tk HT_.out HW_.out 8 19 hHeld ?_
      refine Rgn.pu HT_.out 9 20 ?_
      refine Rgn.pu HT_.out 10 21 ?_
      refine Rgn.pu HT_.out 11 22 ?_
      refine Rgn.pu HT_.out 12 23 ?_
      refine Rgn.pu HT_.out 14 25 ?_
      refine Rgn.pu HT_.out 15 26 ?_
      refine Rgn.tk HT_.out HW_.out 13 24 hHeld ?_
      refine Rgn.tk HT_.out HW_.out 16 27 hHeld ?_
      refine one_ (i := 17) (N := some 28) #[true, true, true, true, true, true, true, true, true, true, true, true, true, true, true, true, true, true, false, false, false, false, false, false, false, false] rfl rfl (one_of HT_.out (by kernel_rfl)) (by decide) (fun K hK => ?_)
      refine Rgn.gs Try.func73 #[.agg #[.slice Ao43 l0_0.length co43, .slice A0_1 l0_1.length c0_1]] ?_
      with_reducible refine (impl_nb.calls _ _ l0_0 _ _ l0_1 t358 _ ?side1 ?side2 ?side3 ?side4 A18.out).mono ?_
      (case side1 => repeat (first | exact (Kd.R_reads' HO0_0.out).2.2 | (with_reducible refine Kd.C_alloc ?_ _) | (with_reducible refine Kd.C_drewN ?_ _) | (with_reducible refine Kd.C_drew ?_)))
      (case side2 => exact (Kd.R_reads' HO0_0.out).2.1)
      (case side3 => repeat (first | exact (Kd.S_reads' HO0_1.out).2.2 | (with_reducible refine Kd.C_alloc ?_ _) | (with_reducible refine Kd.C_drewN ?_ _) | (with_reducible refine Kd.C_drew ?_)))
      (case side4 => exact (Kd.S_reads' HO0_1.out).2.1)
      rintro e w49 ⟨rfl, hb⟩
      refine ⟨_, rfl, ?_⟩
      replace HO0_0 := Aside0.mk (Kd.R_below (Rgn.rq HO0_0.out) hb)
      replace HO0_1 := Aside0.mk (Kd.S_below (Rgn.sq HO0_1.out) hb)
      replace BK356 := Aside0.mk (Rgn.bb BK356.out hb)
      replace BK357 := Aside0.mk (Rgn.bb BK357.out hb)
      replace HK := Aside0.mk (Kept.below (S := (fun k_ => (P0_0_ k_ ∨ P0_1_ k_) ∨ k_ = gb356)) (by repeat (first | (with_reducible first | exact HK.out | apply Kept.alloc | apply Kept.drewN | apply Kept.drew | refine Kept.setCell ?_ (.inl (.inr rfl)) _ | refine Kept.setCell ?_ (.inr GW357.out) _) | exact HK.out)) hb)
      replace HB := Aside0.mk (below_step (Rgn.bq HB.out) hb)
      (try clear hb)
      skip
      skip
      skip
      refine hK.out _ _ ⟨(blk_cell BK356.out 0).trans rfl, (blk_cell BK356.out 1).trans rfl, (blk_cell BK357.out 0).trans rfl, (blk_cell BK357.out 1).trans rfl, (blk_cell BK357.out 2).trans rfl⟩ (fun hHeld => ?_)
      clear hK K
      refine norm_ (a' := ?_) ?_ ?_
      rotate_left
      ·
       show Act.put _ (some 28) _ = _
       simp only [Act.put, List.setIfInBounds_toArray, List.set_cons_zero, List.set_cons_succ, i64_w, i32_w]
       rfl
      refine Rgn.pu HT_.out 18 29 ?_
      refine Rgn.pu HT_.out 19 30 ?_
      refine Rgn.pu HT_.out 20 31 ?_
      refine Rgn.pu HT_.out 21 32 ?_
      refine Rgn.tk HT_.out HW_.out 22 33 hHeld ?_
      refine Rgn.pu HT_.out 23 34 ?_
      refine Rgn.pu HT_.out 24 35 ?_
      refine Rgn.pu HT_.out 25 36 ?_
      refine done_ (done_of HT_.out (by kernel_rfl)) ?_
      try go_wp2
      go_ret
      exact ⟨by first | rfl | (simp [errW_none, errW_some] <;> rfl) | (simp [*, errW_none, errW_some] <;> rfl), _, _, (Rgn.kb BK356.out), by (with_reducible repeat (first | apply Kd.R_alloc | apply Kd.R_drewN | apply Kd.R_drew)); exact HO0_0.out, by (with_reducible repeat (first | apply Kd.S_alloc | apply Kd.S_drewN | apply Kd.S_drew)); exact Kd.S_mono HO0_1.out (fun _ hk => ⟨hk.1.1.1, hk.1.1.2⟩), Rgn.bq HB.out, by repeat (first | (with_reducible first | exact HK.out | apply Kept.alloc | apply Kept.drewN | apply Kept.drew | refine Kept.setCell ?_ (.inl (.inr rfl)) _ | refine Kept.setCell ?_ (.inr GW357.out) _) | exact HK.out)⟩
 ·
  rw [if_neg c3] at H
  have c3b0 : (a1_0 == 1) = false := beq_eq_false_iff_ne.mpr c3
  have c3b1 : (a1_0 != 1) = true := bne_iff_ne.mpr c3
  by_cases c50 : a1_0 = 2
  ·
   rw [if_pos c50] at H
   have c50b0 : (a1_0 == 2) = true := beq_iff_eq.mpr c50
   have c50b1 : (a1_0 != 2) = false := bne_eq_false_iff_eq.mpr c50
   clear c50
   have HC51 := Aside0.mk H
   clear H
   obtain ⟨Ao52, co52, eo52⟩ := Kd.R_slice HO0_0.out
   subst eo52
   go_enter Try.func85, Try.ntmps85
   go_upto_region 8 with (first | ((with_reducible refine gate_dst (N := 3) rfl ?_); (try (refine gate_guard (by rfl) ?_; dsimp only)); refine Rgn.bx 3 #[.int .i64 a1_0, .int .i64 a1_1, .slice A1_2 l1_2.length c1_2] 93 ?_; intro gb357 hg w54 hbox hb; replace HO0_0 := Aside0.mk (Kd.R_below (Rgn.rq HO0_0.out) hb); replace HO0_1 := Aside0.mk (Kd.S_below (Kd.S_elderB (Rgn.sq HO0_1.out) gb357 (Nat.le_of_eq hg.symm)) hb); have BK357 := Aside0.mk (hbox); have GW357 := Aside0.mk ((by rw [hg]; exact (by first | exact HK.out.1 | exact (show Kept w _ (fun k_ => (P0_0_ k_ ∨ P0_1_ k_) ∨ k_ = gb356) from by repeat (first | (with_reducible first | exact HK.out | apply Kept.alloc | apply Kept.drewN | apply Kept.drew | refine Kept.setCell ?_ (.inl (.inr rfl)) _) | exact HK.out)).1) : w.heap.size ≤ gb357)); replace HK := Aside0.mk (Kept.below (S := (fun k_ => (P0_0_ k_ ∨ P0_1_ k_) ∨ k_ = gb356)) (by repeat (first | (with_reducible first | exact HK.out | apply Kept.alloc | apply Kept.drewN | apply Kept.drew | refine Kept.setCell ?_ (.inl (.inr rfl)) _) | exact HK.out)) hb); have GE357 := Aside0.mk (Rgn.ge hg HB.out); replace HB := Aside0.mk (below_step (Rgn.bq HB.out) hb); have NB356_357 := Aside0.mk (Rgn.nl hg BK356.out); have NB357_356 := Aside0.mk (Rgn.ng hg BK356.out); replace BK356 := Aside0.mk (Rgn.bb BK356.out hb); clear hb hbox hg; have hnb55 := NB357_356.out; have hnc55 := NB356_357.out; obtain ⟨hcz56_0, hcz56_1, hcz56_2, hfz56_0, hfz56_1, hfz56_2⟩ := Rgn.c3 BK357.out))
   (try simp only [Act.put, List.setIfInBounds_toArray, List.set_cons_zero, List.set_cons_succ])
   go_cut [62] (fun v62 wc => ∃ (kq : Nat) (x62_50 : Bool), v62 = .bool x62_50 ∧ Aside0 (impl_do.j0 kq x62_50 l0_0 l0_1 = some (r1, r2, r3)) ∧ Aside0 (kq ≤ k) ∧ Aside0 (Kd.R (Kd.int .u8) 5 wc w0.heap.size (fun k_ => (P0_0_ k_ ∨ w.heap.size ≤ k_)) (.slice Ao52 l0_0.length co52) l0_0) ∧ Aside0 (Kd.S k62 62 wc w0.heap.size (fun k_ => ((P0_0_ k_ ∨ P0_1_ k_) ∨ w.heap.size ≤ k_) ∧ some k_ ≠ ((.slice Ao52 l0_0.length co52) : Value).ownBlock ∧ k_ ≠ gb356 ∧ k_ ≠ gb357) (.slice A0_1 l0_1.length c0_1) l0_1) ∧ Aside0 (wc.heap[gb356]? = some (.cells #[(.slice Ao52 l0_0.length co52), (.slice A0_1 l0_1.length c0_1)] 29 (0, 0))) ∧ Aside0 (wc.heap[gb357]? = some (.cells #[.int .i64 a1_0, .int .i64 a1_1, (.slice A1_2 l1_2.length c1_2)] 93 (0, 0))) ∧ Aside0 (Kept w wc (fun k_ => (P0_0_ k_ ∨ P0_1_ k_) ∨ k_ = gb356)) ∧ Aside0 (Below w0.heap.size w0 wc))
   case first =>
    have H := HC51.out
    clear HC51
    by_cases c57 : a1_1 = 0
    ·
     rw [if_pos c57] at H
     have c57b0 : (a1_1 == 0) = true := beq_iff_eq.mpr c57
     have c57b1 : (a1_1 != 0) = false := bne_eq_false_iff_eq.mpr c57
     clear c57
     (first | rw [c57b0] | (simp only [i64_w, i32_w]; rw [c57b0]) | skip)
     have H' := Aside0.mk H
     clear H
     have hnb58 := NB357_356.out
     have hnc58 := NB356_357.out
     have hcz59_0 := Rgn.cz0 BK357.out
     have hcz59_1 := Rgn.cz1 BK357.out
     have hcz59_2 := Rgn.cz2 BK357.out
     have hfz59_0 := blk_frozen BK357.out 0
     have hfz59_1 := blk_frozen BK357.out 1
     have hfz59_2 := blk_frozen BK357.out 2
     go_wp2
     go_meet
     case rel => exact ⟨_, (((l1_2.length : Int) != 0)), (by first | rfl | (simp; done) | (simp [*]; done)), H', ⟨by first | omega | exact Nat.le_refl _⟩, ⟨by (with_reducible repeat (first | apply Kd.R_alloc | apply Kd.R_drewN | apply Kd.R_drew)); exact HO0_0.out⟩, ⟨by (with_reducible repeat (first | apply Kd.S_alloc | apply Kd.S_drewN | apply Kd.S_drew)); exact Kd.S_mono HO0_1.out (fun _ hk => ⟨hk.1.1.1, ⟨hk.1.1.2, ⟨hk.1.2, hk.2⟩⟩⟩)⟩, ⟨Rgn.kb BK356.out⟩, ⟨Rgn.kb BK357.out⟩, ⟨by repeat (first | (with_reducible first | exact HK.out | apply Kept.alloc | apply Kept.drewN | apply Kept.drew | refine Kept.setCell ?_ (.inl (.inr rfl)) _ | refine Kept.setCell ?_ (.inr GW357.out) _) | exact HK.out)⟩, ⟨Rgn.bq HB.out⟩⟩
    ·
     rw [if_neg c57] at H
     have c57b0 : (a1_1 == 0) = false := beq_eq_false_iff_ne.mpr c57
     have c57b1 : (a1_1 != 0) = true := bne_iff_ne.mpr c57
     (first | rw [c57b0] | (simp only [i64_w, i32_w]; rw [c57b0]) | skip)
     have H' := Aside0.mk H
     clear H
     have hnb60 := NB357_356.out
     have hnc60 := NB356_357.out
     have hcz61_0 := Rgn.cz0 BK357.out
     have hcz61_1 := Rgn.cz1 BK357.out
     have hcz61_2 := Rgn.cz2 BK357.out
     have hfz61_0 := blk_frozen BK357.out 0
     have hfz61_1 := blk_frozen BK357.out 1
     have hfz61_2 := blk_frozen BK357.out 2
     go_wp2
     go_meet
     case rel => exact ⟨_, (true), (by first | rfl | (simp; done) | (simp [*]; done)), H', ⟨by first | omega | exact Nat.le_refl _⟩, ⟨by (with_reducible repeat (first | apply Kd.R_alloc | apply Kd.R_drewN | apply Kd.R_drew)); exact HO0_0.out⟩, ⟨by (with_reducible repeat (first | apply Kd.S_alloc | apply Kd.S_drewN | apply Kd.S_drew)); exact Kd.S_mono HO0_1.out (fun _ hk => ⟨hk.1.1.1, ⟨hk.1.1.2, ⟨hk.1.2, hk.2⟩⟩⟩)⟩, ⟨Rgn.kb BK356.out⟩, ⟨Rgn.kb BK357.out⟩, ⟨by repeat (first | (with_reducible first | exact HK.out | apply Kept.alloc | apply Kept.drewN | apply Kept.drew | refine Kept.setCell ?_ (.inl (.inr rfl)) _ | refine Kept.setCell ?_ (.inr GW357.out) _) | exact HK.out)⟩, ⟨Rgn.bq HB.out⟩⟩
   case rest =>
    clear HC51
    try clear c1
    try clear c2
    try clear p2
    try clear c3
    try clear c3b0
    try clear c3b1
    try clear c4
    try clear c5
    try clear c6
    try clear c7
    try clear c8
    try clear c27
    try clear c27b0
    try clear c27b1
    try clear c46
    try clear c50
    try clear c50b0
    try clear c50b1
    try clear c55
    try clear c57
    try clear c57b0
    try clear c57b1
    try clear c58
    try clear c60
    try clear hcz47_0 hcz47_1 hcz47_2
    try clear hcz56_0 hcz56_1 hcz56_2
    try clear hcz59_0 hcz59_1 hcz59_2
    try clear hcz61_0 hcz61_1 hcz61_2
    try clear hfz47_0 hfz47_1 hfz47_2
    try clear hfz56_0 hfz56_1 hfz56_2
    try clear hfz59_0 hfz59_1 hfz59_2
    try clear hfz61_0 hfz61_1 hfz61_2
    obtain ⟨kq, x62_50, rfl, HA, HJ50, HO_357000, HO_357001, BK356, BK357, HK, HB⟩ := hcut
    cases kq with
    | zero => exact absurd HA.out (by simp [impl_do.j0])
    | succ kj50 =>
     have H := HA.out
     clear HA
     simp only [impl_do.j0] at H
     by_cases c62 : x62_50 = true
     ·
      subst c62
      have H1 : (some (l0_0, l0_1, false)) = some (r1, r2, r3) := by rw [if_pos rfl] at H; exact H
      clear H
      have H := H1
      clear H1
      simp only [Option.some.injEq, Prod.mk.injEq] at H
      obtain ⟨rfl, rfl, rfl⟩ := H
      go_wp2
      go_ret
      exact ⟨by first | rfl | (simp [errW_none, errW_some] <;> rfl) | (simp [*, errW_none, errW_some] <;> rfl), _, _, (Rgn.kb BK356.out), Rgn.rq HO_357000.out, by (with_reducible repeat (first | apply Kd.S_alloc | apply Kd.S_drewN | apply Kd.S_drew)); exact Kd.S_mono HO_357001.out (fun _ hk => ⟨hk.1, hk.2.1⟩), Rgn.bq HB.out, by repeat (first | (with_reducible first | exact HK.out | apply Kept.alloc | apply Kept.drewN | apply Kept.drew | refine Kept.setCell ?_ (.inl (.inr rfl)) _ | refine Kept.setCell ?_ (.inr GW357.out) _) | exact HK.out)⟩
     ·
      replace c62 := Bool.eq_false_iff.mpr c62
      subst c62
      have H1 : (impl_do.l0 kj50 l0_1 (l0_1.length : Int) 0 l0_0 l0_1) = some (r1, r2, r3) := by rw [if_neg (show ¬ (false = true) by decide)] at H; exact H
      clear H
      have H := H1
      clear H1
      have H' := Aside0.mk H
      clear H
      have hnb63 := NB356_357.out
      have hnc63 := NB357_356.out
      have hcz64_0 := Rgn.cz0 BK356.out
      have hcz64_1 := Rgn.cz1 BK356.out
      have hfz64_0 := blk_frozen BK356.out 0
      have hfz64_1 := blk_frozen BK356.out 1
      go_wp2
      go_loopg [68] kj50 (fun kq v68 w' => ∃ (x68_2 : Int) (x357000_2 : List Int) (u357000 : Value), v68 = .int .i64 x68_2 ∧ Aside0 (impl_do.l0 kq l0_1 (l0_1.length : Int) x68_2 x357000_2 l0_1 = some (r1, r2, r3)) ∧ Aside0 (kq ≤ kj50) ∧ Aside0 (Kd.S k62 62 w' w0.heap.size (fun k_ => ((P0_0_ k_ ∨ P0_1_ k_) ∨ w.heap.size ≤ k_) ∧ some k_ ≠ (u357000 : Value).ownBlock ∧ k_ ≠ gb356 ∧ k_ ≠ gb357) (.slice A0_1 l0_1.length c0_1) l0_1) ∧ Aside0 (Kd.R (Kd.int .u8) 5 w' w0.heap.size (fun k_ => (P0_0_ k_ ∨ w.heap.size ≤ k_)) u357000 x357000_2) ∧ Aside0 (Kd.S k62 62 w' w0.heap.size (fun k_ => ((P0_0_ k_ ∨ P0_1_ k_) ∨ w.heap.size ≤ k_) ∧ some k_ ≠ (u357000 : Value).ownBlock ∧ k_ ≠ gb356 ∧ k_ ≠ gb357) (.slice A0_1 l0_1.length c0_1) l0_1) ∧ Aside0 (w'.heap[gb356]? = some (.cells #[u357000, (.slice A0_1 l0_1.length c0_1)] 29 (0, 0))) ∧ Aside0 (w'.heap[gb357]? = some (.cells #[.int .i64 a1_0, .int .i64 a1_1, (.slice A1_2 l1_2.length c1_2)] 93 (0, 0))) ∧ Aside0 (Kept w w' (fun k_ => (P0_0_ k_ ∨ P0_1_ k_) ∨ k_ = gb356)) ∧ Aside0 (Below w0.heap.size w0 w'))
      case atStart => exact ⟨(0), (l0_0), (.slice Ao52 l0_0.length co52), (by first | rfl | (simp; done) | (simp [*]; done)), H', ⟨Nat.le_refl _⟩, ⟨by (with_reducible repeat (first | apply Kd.S_alloc | apply Kd.S_drewN | apply Kd.S_drew)); exact HO_357001.out⟩, ⟨Rgn.rq HO_357000.out⟩, ⟨by (with_reducible repeat (first | apply Kd.S_alloc | apply Kd.S_drewN | apply Kd.S_drew)); exact HO_357001.out⟩, ⟨Rgn.kb BK356.out⟩, ⟨Rgn.kb BK357.out⟩, ⟨by repeat (first | (with_reducible first | exact HK.out | apply Kept.alloc | apply Kept.drewN | apply Kept.drew | refine Kept.setCell ?_ (.inl (.inr rfl)) _ | refine Kept.setCell ?_ (.inr GW357.out) _) | exact HK.out)⟩, ⟨Rgn.bq HB.out⟩⟩
      case round =>
       clear H'
       try clear c1
       try clear c2
       try clear p2
       try clear c3
       try clear c3b0
       try clear c3b1
       try clear c4
       try clear c5
       try clear c6
       try clear c7
       try clear c8
       try clear c27
       try clear c27b0
       try clear c27b1
       try clear c46
       try clear c50
       try clear c50b0
       try clear c50b1
       try clear c55
       try clear c57
       try clear c57b0
       try clear c57b1
       try clear c58
       try clear c60
       try clear c62
       try clear c63
       try clear hcz47_0 hcz47_1 hcz47_2
       try clear hcz56_0 hcz56_1 hcz56_2
       try clear hcz59_0 hcz59_1 hcz59_2
       try clear hcz61_0 hcz61_1 hcz61_2
       try clear hcz64_0 hcz64_1
       try clear hfz47_0 hfz47_1 hfz47_2
       try clear hfz56_0 hfz56_1 hfz56_2
       try clear hfz59_0 hfz59_1 hfz59_2
       try clear hfz61_0 hfz61_1 hfz61_2
       try clear hfz64_0 hfz64_1
       try clear p2
       obtain ⟨x68_2, x357000_2, u357000, rfl, HA, HK2, HO_66, HO_357000, HO_357001, BK356, BK357, HK, HB⟩ := hrel
       cases gk with
       | zero => exact absurd HA.out (by simp [impl_do.l0])
       | succ k2 =>
        have H := HA.out
        clear HA
        simp only [impl_do.l0] at H
        by_cases c65 : x68_2 < (l0_1.length : Int)
        ·
         rw [if_pos c65] at H
         have c65b0 : decide (x68_2 < (l0_1.length : Int)) = true := decide_eq_true c65
         clear c65
         by_cases c66 : 0 ≤ x68_2
         ·
          rw [if_pos c66] at H
          have c66b0 : decide (0 ≤ x68_2) = true := decide_eq_true c66
          clear c66
          by_cases c67 : x68_2 < (l0_1.length : Int)
          ·
           rw [if_pos c67] at H
           have c67b0 : decide (x68_2 < (l0_1.length : Int)) = true := decide_eq_true c67
           clear c67
           replace H := Option.bind_eq_some_iff.mp H
           obtain ⟨t368, A680, H⟩ := H
           replace H : (impl_do.l0 k2 l0_1 (l0_1.length : Int) (wrap64 (x68_2 + 1)) t368 l0_1) = some (r1, r2, r3) := H
           have A68 := Aside0.mk A680
           clear A680
           have H' := Aside0.mk H
           clear H
           have p365 : 0 ≤ (x68_2 : Int) := of_decide_eq_true (by first | (with_reducible assumption) | assumption)
           have q365 : x68_2 < (l0_1.length : Int) := of_decide_eq_true (by first | (with_reducible assumption) | assumption)
           obtain ⟨ad365, A365_1, c365_1, e365, hx365_0, hx365_1, hl365_1, hi365_1⟩ := at_T62 (Kd.S_reads' HO_66.out).2.2 x68_2 p365 q365
           cases e365
           obtain ⟨ce365, hce365, hMe365, hcc365⟩ := Kd.V_get (Kd.S_V (base' := w0.heap.size) HO_66.out) z62 x68_2 p365 (by first | exact q365 | exact of_decide_eq_true (by first | (with_reducible assumption) | assumption) | (have e_ := (Kd.S_reads' HO_66.out).1; omega))
           obtain ⟨ua365_1, uc365_1, rfl, ul365_1, ge365_1⟩ := k62_openF hMe365
           have hv365_1 := hcc365 1 _ rfl
           rw [add_field _ _ 1 (by omega)] at hv365_1
           replace hv365_1 := Option.some.inj (hv365_1.symm.trans hx365_1)
           injection hv365_1 with hva_ hvn_ hvc_
           rw [hva_] at ge365_1
           rw [hvc_] at ul365_1
           have HL365_1 := Aside0.mk (show Kd.V (Kd.int .u8) 5 _ w0.heap.size _ _ ((rd_T62 l0_1 x68_2).f1) from Kd.V_mk ul365_1 ge365_1)
           clear hva_ hvn_ hvc_ ge365_1 ul365_1
           clear hcc365 hce365
           have HR365_1 := Aside0.mk hi365_1
           have HC365_1 := Aside0.mk hl365_1
           clear hi365_1 hl365_1
           replace p365 := eq_true p365
           replace q365 := eq_true q365
           try go_wp2_with (first | ((with_reducible refine gate_dst (N := 6) rfl ?_); (try (refine gate_guard (by rfl) ?_; dsimp only)); refine Rgn.bx 6 #[.int .i64 0, .slice none 0 0] 62 ?_; intro gb366 hg w69 hbox hb; replace HO_66 := Aside0.mk (Kd.S_below (Kd.S_elderB (Rgn.sq HO_66.out) gb366 (Nat.le_of_eq hg.symm)) hb); replace HO_357000 := Aside0.mk (Kd.R_below (Rgn.rq HO_357000.out) hb); replace HO_357001 := Aside0.mk (Kd.S_below (Kd.S_elderB (Rgn.sq HO_357001.out) gb366 (Nat.le_of_eq hg.symm)) hb); replace HL365_1 := Aside0.mk (Kd.V_below (Kd.V_elderB (by (with_reducible repeat (first | apply Kd.V_alloc | apply Kd.V_drewN | apply Kd.V_drew)); exact HL365_1.out) gb366 (Nat.le_of_eq hg.symm)) hb); replace HR365_1 := Aside0.mk (Kd.C_below (by repeat (first | (with_reducible exact HR365_1.out) | (with_reducible refine Kd.C_alloc ?_ _) | (with_reducible refine Kd.C_drewN ?_ _) | (with_reducible refine Kd.C_drew ?_) | exact HR365_1.out)) hb); have BK366 := Aside0.mk (hbox); have GW366 := Aside0.mk ((by rw [hg]; exact (by first | exact HK.out.1 | exact (show Kept w _ (fun k_ => (P0_0_ k_ ∨ P0_1_ k_) ∨ k_ = gb356) from by repeat (first | (with_reducible first | exact HK.out | apply Kept.alloc | apply Kept.drewN | apply Kept.drew | refine Kept.setCell ?_ (.inl (.inr rfl)) _ | refine Kept.setCell ?_ (.inr GW357.out) _) | exact HK.out)).1) : w.heap.size ≤ gb366)); replace HK := Aside0.mk (Kept.below (S := (fun k_ => (P0_0_ k_ ∨ P0_1_ k_) ∨ k_ = gb356)) (by repeat (first | (with_reducible first | exact HK.out | apply Kept.alloc | apply Kept.drewN | apply Kept.drew | refine Kept.setCell ?_ (.inl (.inr rfl)) _ | refine Kept.setCell ?_ (.inr GW357.out) _) | exact HK.out)) hb); have GE366 := Aside0.mk (Rgn.ge hg HB.out); replace HB := Aside0.mk (below_step (Rgn.bq HB.out) hb); have NB356_366 := Aside0.mk (Rgn.nl hg BK356.out); have NB366_356 := Aside0.mk (Rgn.ng hg BK356.out); replace BK356 := Aside0.mk (Rgn.bb BK356.out hb); have NB357_366 := Aside0.mk (Rgn.nl hg BK357.out); have NB366_357 := Aside0.mk (Rgn.ng hg BK357.out); replace BK357 := Aside0.mk (Rgn.bb BK357.out hb); clear hb hbox hg; have hnb70 := NB366_356.out; have hnc70 := NB356_366.out; have hnb71 := NB366_357.out; have hnc71 := NB357_366.out; obtain ⟨hcz72_0, hcz72_1, hfz72_0, hfz72_1⟩ := Rgn.c2 BK366.out))
           have n0_ : Aside0 (Kd.S k62 62 ((w69.setCell ⟨gb366, 0, none⟩ (.int .i64 ((rd_T62 l0_1 x68_2).f0))).setCell ⟨gb366, 1, none⟩ (.slice A365_1 ((rd_T62 l0_1 x68_2).f1).length c365_1)) w0.heap.size (fun k_ => ((P0_0_ k_ ∨ P0_1_ k_) ∨ w.heap.size ≤ k_) ∧ some k_ ≠ (u357000 : Value).ownBlock ∧ k_ ≠ gb356 ∧ k_ ≠ gb357 ∧ k_ ≠ gb366) (.slice (some ad365) l0_1.length c0_1) l0_1) := ⟨by (with_reducible repeat (first | apply Kd.S_alloc | apply Kd.S_drewN | apply Kd.S_drew)); exact Kd.S_mono (Kd.S_far (p := ⟨gb366, 1, none⟩) (Kd.S_far (p := ⟨gb366, 0, none⟩) (Kd.S_mono HO_66.out (fun k_ hk => (⟨hk, hk.2⟩ : _ ∧ k_ ≠ gb366))) (fun _ hk => hk.2) (.int .i64 ((rd_T62 l0_1 x68_2).f0))) (fun _ hk => hk.2) (.slice A365_1 ((rd_T62 l0_1 x68_2).f1).length c365_1)) (fun _ hk => ⟨hk.1.1.1, ⟨hk.1.1.2.1, ⟨hk.1.1.2.2.1, ⟨hk.1.1.2.2.2, hk.1.2⟩⟩⟩⟩)⟩
           have n1_ : Aside0 (Kd.R (Kd.int .u8) 5 ((w69.setCell ⟨gb366, 0, none⟩ (.int .i64 ((rd_T62 l0_1 x68_2).f0))).setCell ⟨gb366, 1, none⟩ (.slice A365_1 ((rd_T62 l0_1 x68_2).f1).length c365_1)) w0.heap.size (fun k_ => (P0_0_ k_ ∨ w.heap.size ≤ k_)) u357000 x357000_2) := ⟨by (with_reducible repeat (first | apply Kd.R_alloc | apply Kd.R_drewN | apply Kd.R_drew)); exact Kd.R_mono (Kd.R_far (p := ⟨gb366, 1, none⟩) (Kd.R_far (p := ⟨gb366, 0, none⟩) (Kd.R_types HO_357000.out BK366.out (by decide)) (fun _ hk => hk.2) (.int .i64 ((rd_T62 l0_1 x68_2).f0))) (fun _ hk => hk.2) (.slice A365_1 ((rd_T62 l0_1 x68_2).f1).length c365_1)) (fun _ hk => hk.1)⟩
           have n2_ : Aside0 (Kd.S k62 62 ((w69.setCell ⟨gb366, 0, none⟩ (.int .i64 ((rd_T62 l0_1 x68_2).f0))).setCell ⟨gb366, 1, none⟩ (.slice A365_1 ((rd_T62 l0_1 x68_2).f1).length c365_1)) w0.heap.size (fun k_ => ((P0_0_ k_ ∨ P0_1_ k_) ∨ w.heap.size ≤ k_) ∧ some k_ ≠ (u357000 : Value).ownBlock ∧ k_ ≠ gb356 ∧ k_ ≠ gb357 ∧ k_ ≠ gb366) (.slice (some ad365) l0_1.length c0_1) l0_1) := ⟨by (with_reducible repeat (first | apply Kd.S_alloc | apply Kd.S_drewN | apply Kd.S_drew)); exact Kd.S_mono (Kd.S_far (p := ⟨gb366, 1, none⟩) (Kd.S_far (p := ⟨gb366, 0, none⟩) (Kd.S_mono HO_357001.out (fun k_ hk => (⟨hk, hk.2⟩ : _ ∧ k_ ≠ gb366))) (fun _ hk => hk.2) (.int .i64 ((rd_T62 l0_1 x68_2).f0))) (fun _ hk => hk.2) (.slice A365_1 ((rd_T62 l0_1 x68_2).f1).length c365_1)) (fun _ hk => ⟨hk.1.1.1, ⟨hk.1.1.2.1, ⟨hk.1.1.2.2.1, ⟨hk.1.1.2.2.2, hk.1.2⟩⟩⟩⟩)⟩
           have n3_ : Aside0 (Kd.V (Kd.int .u8) 5 ((w69.setCell ⟨gb366, 0, none⟩ (.int .i64 ((rd_T62 l0_1 x68_2).f0))).setCell ⟨gb366, 1, none⟩ (.slice A365_1 ((rd_T62 l0_1 x68_2).f1).length c365_1)) w0.heap.size (fun k_ => ((P0_0_ k_ ∨ P0_1_ k_) ∨ w.heap.size ≤ k_) ∧ some k_ ≠ (u357000 : Value).ownBlock ∧ k_ ≠ gb356 ∧ k_ ≠ gb357 ∧ k_ ≠ gb366) (.slice A365_1 ((rd_T62 l0_1 x68_2).f1).length c365_1) ((rd_T62 l0_1 x68_2).f1)) := ⟨by (with_reducible repeat (first | apply Kd.V_alloc | apply Kd.V_drewN | apply Kd.V_drew)); exact Kd.V_mono (Kd.V_far (p := ⟨gb366, 1, none⟩) (Kd.V_far (p := ⟨gb366, 0, none⟩) (Kd.V_mono HL365_1.out (fun k_ hk => (⟨hk, hk.2⟩ : _ ∧ k_ ≠ gb366))) (fun _ hk => hk.2) (.int .i64 ((rd_T62 l0_1 x68_2).f0))) (fun _ hk => hk.2) (.slice A365_1 ((rd_T62 l0_1 x68_2).f1).length c365_1)) (fun _ hk => ⟨hk.1.1.1, ⟨hk.1.1.2.1, ⟨hk.1.1.2.2.1, ⟨hk.1.1.2.2.2, hk.1.2⟩⟩⟩⟩)⟩
           have n4_ : Aside0 (((w69.setCell ⟨gb366, 0, none⟩ (.int .i64 ((rd_T62 l0_1 x68_2).f0))).setCell ⟨gb366, 1, none⟩ (.slice A365_1 ((rd_T62 l0_1 x68_2).f1).length c365_1)).heap[gb356]? = some (.cells #[u357000, .slice (some ad365) l0_1.length c0_1] 29 (0, 0))) := ⟨Rgn.kf BK356.out⟩
           have n5_ : Aside0 (((w69.setCell ⟨gb366, 0, none⟩ (.int .i64 ((rd_T62 l0_1 x68_2).f0))).setCell ⟨gb366, 1, none⟩ (.slice A365_1 ((rd_T62 l0_1 x68_2).f1).length c365_1)).heap[gb357]? = some (.cells #[.int .i64 a1_0, .int .i64 a1_1, .slice A1_2 l1_2.length c1_2] 93 (0, 0))) := ⟨Rgn.kf BK357.out⟩
           have n6_ : Aside0 (((w69.setCell ⟨gb366, 0, none⟩ (.int .i64 ((rd_T62 l0_1 x68_2).f0))).setCell ⟨gb366, 1, none⟩ (.slice A365_1 ((rd_T62 l0_1 x68_2).f1).length c365_1)).heap[gb366]? = some (.cells #[.int .i64 ((rd_T62 l0_1 x68_2).f0), .slice A365_1 ((rd_T62 l0_1 x68_2).f1).length c365_1] 62 (0, 0))) := ⟨by (with_reducible repeat (first | refine blk_drewN ?_ _ | refine blk_drew ?_ | refine blk_alloc ?_ _)); refine blk_put (cs := #[.int .i64 ((rd_T62 l0_1 x68_2).f0), .slice none 0 0]) ?_ 1 _ rfl; (with_reducible repeat (first | refine blk_drewN ?_ _ | refine blk_drew ?_ | refine blk_alloc ?_ _)); refine blk_put (cs := #[.int .i64 0, .slice none 0 0]) ?_ 0 _ rfl; (with_reducible repeat (first | refine blk_drewN ?_ _ | refine blk_drew ?_ | refine blk_alloc ?_ _)); exact BK366.out⟩
           have n7_ : Aside0 (Kept w ((w69.setCell ⟨gb366, 0, none⟩ (.int .i64 ((rd_T62 l0_1 x68_2).f0))).setCell ⟨gb366, 1, none⟩ (.slice A365_1 ((rd_T62 l0_1 x68_2).f1).length c365_1)) (fun k_ => (P0_0_ k_ ∨ P0_1_ k_) ∨ k_ = gb356)) := ⟨by repeat (first | (with_reducible first | exact HK.out | apply Kept.alloc | apply Kept.drewN | apply Kept.drew | refine Kept.setCell ?_ (.inl (.inr rfl)) _ | refine Kept.setCell ?_ (.inr GW357.out) _ | refine Kept.setCell ?_ (.inr GW366.out) _) | exact HK.out)⟩
           have n8_ : Aside0 (Below w0.heap.size w0 ((w69.setCell ⟨gb366, 0, none⟩ (.int .i64 ((rd_T62 l0_1 x68_2).f0))).setCell ⟨gb366, 1, none⟩ (.slice A365_1 ((rd_T62 l0_1 x68_2).f1).length c365_1))) := ⟨Rgn.bq HB.out⟩
           (try clear HO_66)
           (try clear HO_357000)
           (try clear HO_357001)
           (try clear HL365_1)
           (try clear BK356)
           (try clear BK357)
           (try clear BK366)
           (try clear HK)
           (try clear HB)
           generalize ((w69.setCell ⟨gb366, 0, none⟩ (.int .i64 ((rd_T62 l0_1 x68_2).f0))).setCell ⟨gb366, 1, none⟩ (.slice A365_1 ((rd_T62 l0_1 x68_2).f1).length c365_1)) = w73 at n0_ n1_ n2_ n3_ n4_ n5_ n6_ n7_ n8_ ⊢
           have HO_66 := n0_
           have HO_357000 := n1_
           have HO_357001 := n2_
           have HL365_1 := n3_
           have BK356 := n4_
           have BK357 := n5_
           have BK366 := n6_
           have HK := n7_
           have HB := n8_
           clear n0_ n1_ n2_ n3_ n4_ n5_ n6_ n7_ n8_
           replace HO_66 := Aside0.mk (Kd.S_drew HO_66.out)
           replace HO_357000 := Aside0.mk (Kd.R_drew HO_357000.out)
           replace HO_357001 := Aside0.mk (Kd.S_drew HO_357001.out)
           replace HL365_1 := Aside0.mk (Kd.V_drew HL365_1.out)
           replace BK356 := Aside0.mk (blk_drew BK356.out)
           replace BK357 := Aside0.mk (blk_drew BK357.out)
           replace BK366 := Aside0.mk (blk_drew BK366.out)
           replace HK := Aside0.mk (Kept.drew HK.out)
           replace HB := Aside0.mk (below_drew1 HB.out)
           have p367 : 0 ≤ (x68_2 : Int) := of_decide_eq_true (by first | (with_reducible assumption) | assumption)
           have q367 : x68_2 < (l0_1.length : Int) := of_decide_eq_true (by first | (with_reducible assumption) | assumption)
           obtain ⟨ad367, A367_1, c367_1, e367, hx367_0, hx367_1, hl367_1, hi367_1⟩ := at_T62 (Kd.S_reads' HO_66.out).2.2 x68_2 p367 q367
           obtain rfl : ad365 = ad367 := (by injection e367)
           obtain ⟨ce367, hce367, hMe367, hcc367⟩ := Kd.V_get (Kd.S_V (base' := w0.heap.size) HO_66.out) z62 x68_2 p367 (by first | exact q367 | exact of_decide_eq_true (by first | (with_reducible assumption) | assumption) | (have e_ := (Kd.S_reads' HO_66.out).1; omega))
           obtain ⟨ua367_1, uc367_1, rfl, ul367_1, ge367_1⟩ := k62_openF hMe367
           have hv367_1 := hcc367 1 _ rfl
           rw [add_field _ _ 1 (by omega)] at hv367_1
           replace hv367_1 := Option.some.inj (hv367_1.symm.trans hx367_1)
           injection hv367_1 with hva_ hvn_ hvc_
           rw [hva_] at ge367_1
           rw [hvc_] at ul367_1
           have HL367_1 := Aside0.mk (show Kd.V (Kd.int .u8) 5 _ w0.heap.size _ _ ((rd_T62 l0_1 x68_2).f1) from Kd.V_mk ul367_1 ge367_1)
           clear hva_ hvn_ hvc_ ge367_1 ul367_1
           clear hcc367 hce367
           have HR367_1 := Aside0.mk hi367_1
           have HC367_1 := Aside0.mk hl367_1
           clear hi367_1 hl367_1
           replace p367 := eq_true p367
           replace q367 := eq_true q367
           obtain ⟨Ao75, co75, eo75⟩ := Kd.R_slice HO_357000.out
           (first | subst eo75 | (injection eo75 with f1_ f2_ f3_; have f4_ := f1_.symm; have f5_ := f3_.symm; clear f1_ f2_ f3_; subst f4_; subst f5_))
           obtain ⟨iz, hiz, hz1, hz2, hz3⟩ := impl_lay.is A68.out
           obtain ⟨gz, hzA, hzb⟩ : ∃ gz, Ao75 = some (⟨gz, 0, none⟩ : Addr) ∧ w0.heap.size ≤ gz := by
            rcases (Kd.own_of_R (enc := Value.int .u8) HO_357000.out).2 with ⟨_, hn0⟩ | ⟨g_, cap_, cur_, hv_, hbg_, _⟩
            ·
             exact absurd hn0 (by omega)
            ·
             injection hv_ with h1_; exact ⟨g_, h1_, hbg_⟩
           have hcapz := (Kd.R_reads' HO_357000.out).2.1
           have hlez : (iz ≤ x357000_2.length) = True := eq_true (by omega)
           have hnez : (co75 = iz) = False := eq_false (by omega)
           refine start_ (n := 11) (S := fun w' => w'.cell? ⟨gb356, 0, none⟩ = some (.slice Ao75 x357000_2.length co75) ∧ w'.cell? ⟨gb356, 1, none⟩ = some (.slice (some ad365) l0_1.length c0_1) ∧ w'.cell? ⟨gb366, 0, none⟩ = some (.int .i64 ((rd_T62 l0_1 x68_2).f0)) ∧ w'.cell? ⟨gb366, 1, none⟩ = some (.slice A365_1 ((rd_T62 l0_1 x68_2).f1).length c365_1)) (ds := []) #[false, false, false, false, false, false, false, false, false, false, false] (by kernel_rfl) rfl rfl ⟨(blk_cell BK356.out 0).trans rfl, (blk_cell BK356.out 1).trans rfl, (blk_cell BK366.out 0).trans rfl, (blk_cell BK366.out 1).trans rfl⟩ (fun hHeld => ?_); refine with_tabW impl_do.tab13 impl_do.bits13 (fun HT_ HW_ => ?_)
           generalize w73.drew = w74 at HO_66 HO_357000 HO_357001 HL365_1 BK356 BK357 BK366 HK HB HL367_1 HR367_1 hx367_0 hx367_1 hHeld ⊢
           refine Rgn.pu HT_.out 0 72 ?_
           refine Rgn.pu HT_.out 1 73 ?_
           refine Rgn.pu HT_.out 2 74 ?_
           refine Rgn.pu HT_.out 4 76 ?_
           refine Rgn.pu HT_.out 8 80 ?_
           refine Rgn.tk HT_.out HW_.out 3 75 hHeld ?_
           refine Rgn.tk HT_.out HW_.out 5 77 hHeld ?_
           refine Rgn.pu HT_.out 6 78 ?_
           refine Rgn.pu HT_.out 7 79 ?_
           refine Rgn.tk HT_.out HW_.out 9 81 hHeld ?_
           refine one_ (i := 10) (N := some 82) #[true, true, true, true, true, true, true, true, true, true, true] rfl rfl (one_of HT_.out (by kernel_rfl)) (by decide) (fun K hK => ?_)
           have HOz : Kd.R (Kd.int .u8) 5 w74 w0.heap.size (fun k_ => (P0_0_ k_ ∨ w.heap.size ≤ k_)) (.slice (some ⟨gz, 0, none⟩) x357000_2.length co75) x357000_2 := by have h_ := HO_357000.out; rw [hzA] at h_; exact h_
           refine Cpy.copy_row_wp (.tmp 79) (.tmp 81) 22 22 rfl Try.underlying22 (by kernel_rfl) (x357000_2.length - iz) (co75 - iz) (by rfl) A365_1 ((rd_T62 l0_1 x68_2).f1) ((rd_T62 l0_1 x68_2).f1).length c365_1 (by rfl) rfl (Kd.V_reads' HL365_1.out).2.2 (by omega) HOz hz1 ?_
           intro w76 hy0 hgr
           replace HO_66 := Aside0.mk (Kd.S_grown HO_66.out hgr (fun k_ hk_ e_ => hk_.2.1 (by rw [hzA]; exact e_)))
           replace HO_357001 := Aside0.mk (Kd.S_grown HO_357001.out hgr (fun k_ hk_ e_ => hk_.2.1 (by rw [hzA]; exact e_)))
           replace BK356 := Aside0.mk ((hgr.block _ (blk_lt BK356.out) (fun e_ => Kd.R_ne HOz BK356.out (by decide) (by first | exact e_ | exact e_.symm))).trans BK356.out)
           replace BK357 := Aside0.mk ((hgr.block _ (blk_lt BK357.out) (fun e_ => Kd.R_ne HOz BK357.out (by decide) (by first | exact e_ | exact e_.symm))).trans BK357.out)
           replace BK366 := Aside0.mk ((hgr.block _ (blk_lt BK366.out) (fun e_ => Kd.R_ne HOz BK366.out (by decide) (by first | exact e_ | exact e_.symm))).trans BK366.out)
           replace HK := Aside0.mk (Kept.of_grown (S := (fun k_ => (P0_0_ k_ ∨ P0_1_ k_) ∨ k_ = gb356)) hgr HK.out (fun k_ e_ => Or.imp_left (fun h_ => .inl (.inl h_)) (HO_357000.out.1 k_ (by rw [hzA]; exact e_))))
           replace HO_357000 := Aside0.mk (show Kd.R (Kd.int .u8) 5 w76 w0.heap.size (fun k_ => (P0_0_ k_ ∨ w.heap.size ≤ k_)) (.slice Ao75 x357000_2.length co75) t368 by rw [hz3, hzA]; exact hy0)
           replace HB := Aside0.mk (HB.out.grown hgr HB.out.size (fun k_ e_ => by cases e_; exact hzb))
           clear HL365_1 HL367_1
           skip
           skip
           (try clear hy0)
           refine hK.out _ _ ⟨(blk_cell BK356.out 0).trans rfl, (blk_cell BK356.out 1).trans rfl, (blk_cell BK366.out 0).trans rfl, (blk_cell BK366.out 1).trans rfl⟩ (fun hHeld => ?_)
           clear hK K
           refine norm_ (a' := ?_) ?_ ?_
           rotate_left
           ·
            show Act.put _ (some 82) _ = _
            simp only [Act.put, List.setIfInBounds_toArray, List.set_cons_zero, List.set_cons_succ, i64_w, i32_w]
            rfl
           refine done_ (done_of HT_.out (by kernel_rfl)) ?_
           try go_wp2
           go_roundg k2
           case measure => have := HJ50.out; have := HK2.out; omega
           case rel => exact ⟨(wrap64 (x68_2 + 1)), (t368), (.slice Ao75 x357000_2.length co75), (by first | rfl | (simp; done) | (simp [*]; done)), H', ⟨by have := HJ50.out; have := HK2.out; omega⟩, ⟨by (with_reducible repeat (first | apply Kd.S_alloc | apply Kd.S_drewN | apply Kd.S_drew)); exact Kd.S_mono HO_66.out (fun _ hk => ⟨hk.1, ⟨hk.2.1, ⟨hk.2.2.1, hk.2.2.2.1⟩⟩⟩)⟩, ⟨Rgn.rq HO_357000.out⟩, ⟨by (with_reducible repeat (first | apply Kd.S_alloc | apply Kd.S_drewN | apply Kd.S_drew)); exact Kd.S_mono HO_357001.out (fun _ hk => ⟨hk.1, ⟨hk.2.1, ⟨hk.2.2.1, hk.2.2.2.1⟩⟩⟩)⟩, ⟨Rgn.kb BK356.out⟩, ⟨Rgn.kb BK357.out⟩, ⟨by repeat (first | (with_reducible first | exact HK.out | apply Kept.alloc | apply Kept.drewN | apply Kept.drew | refine Kept.setCell ?_ (.inl (.inr rfl)) _ | refine Kept.setCell ?_ (.inr GW357.out) _ | refine Kept.setCell ?_ (.inr GW366.out) _) | exact HK.out)⟩, ⟨Rgn.bq HB.out⟩⟩
          ·
           rw [if_neg c67] at H
           exact absurd H (by simp)
         ·
          rw [if_neg c66] at H
          exact absurd H (by simp)
        ·
         rw [if_neg c65] at H
         have c65b0 : decide (x68_2 < (l0_1.length : Int)) = false := decide_eq_false c65
         clear c65
         simp only [Option.some.injEq, Prod.mk.injEq] at H
         obtain ⟨rfl, rfl, rfl⟩ := H
         have hnb77 := NB356_357.out
         have hnc77 := NB357_356.out
         have hcz78_0 := Rgn.cz0 BK356.out
         have hcz78_1 := Rgn.cz1 BK356.out
         have hfz78_0 := blk_frozen BK356.out 0
         have hfz78_1 := blk_frozen BK356.out 1
         go_wp2
         go_ret
         exact ⟨by first | rfl | (simp [errW_none, errW_some] <;> rfl) | (simp [*, errW_none, errW_some] <;> rfl), _, _, (by (with_reducible repeat (first | refine blk_drewN ?_ _ | refine blk_drew ?_ | refine blk_alloc ?_ _)); refine blk_put (cs := #[u357000, .slice A0_1 l0_1.length c0_1]) ?_ 1 _ rfl; (with_reducible repeat (first | refine blk_drewN ?_ _ | refine blk_drew ?_ | refine blk_alloc ?_ _)); exact BK356.out), by (with_reducible repeat (first | apply Kd.R_alloc | apply Kd.R_drewN | apply Kd.R_drew)); exact Kd.R_mono (Kd.R_far (p := ⟨gb356, 1, none⟩) (Kd.R_types HO_357000.out BK356.out (by decide)) (fun _ hk => hk.2) (.slice none 0 0)) (fun _ hk => hk.1), Kd.S_nil _ _ _ _ _, Rgn.bq HB.out, by repeat (first | (with_reducible first | exact HK.out | apply Kept.alloc | apply Kept.drewN | apply Kept.drew | refine Kept.setCell ?_ (.inl (.inr rfl)) _ | refine Kept.setCell ?_ (.inr GW357.out) _) | exact HK.out)⟩
  ·
   rw [if_neg c50] at H
   have c50b0 : (a1_0 == 2) = false := beq_eq_false_iff_ne.mpr c50
   have c50b1 : (a1_0 != 2) = true := bne_iff_ne.mpr c50
   simp only [Option.some.injEq, Prod.mk.injEq] at H
   obtain ⟨rfl, rfl, rfl⟩ := H
   obtain ⟨Ao79, co79, eo79⟩ := Kd.R_slice HO0_0.out
   subst eo79
   go_enter Try.func85, Try.ntmps85
   go_wp2_with (first | ((with_reducible refine gate_dst (N := 3) rfl ?_); (try (refine gate_guard (by rfl) ?_; dsimp only)); refine Rgn.bx 3 #[.int .i64 a1_0, .int .i64 a1_1, .slice A1_2 l1_2.length c1_2] 93 ?_; intro gb357 hg w81 hbox hb; replace HO0_0 := Aside0.mk (Kd.R_below (Rgn.rq HO0_0.out) hb); replace HO0_1 := Aside0.mk (Kd.S_below (Kd.S_elderB (Rgn.sq HO0_1.out) gb357 (Nat.le_of_eq hg.symm)) hb); have BK357 := Aside0.mk (hbox); have GW357 := Aside0.mk ((by rw [hg]; exact (by first | exact HK.out.1 | exact (show Kept w _ (fun k_ => (P0_0_ k_ ∨ P0_1_ k_) ∨ k_ = gb356) from by repeat (first | (with_reducible first | exact HK.out | apply Kept.alloc | apply Kept.drewN | apply Kept.drew | refine Kept.setCell ?_ (.inl (.inr rfl)) _) | exact HK.out)).1) : w.heap.size ≤ gb357)); replace HK := Aside0.mk (Kept.below (S := (fun k_ => (P0_0_ k_ ∨ P0_1_ k_) ∨ k_ = gb356)) (by repeat (first | (with_reducible first | exact HK.out | apply Kept.alloc | apply Kept.drewN | apply Kept.drew | refine Kept.setCell ?_ (.inl (.inr rfl)) _) | exact HK.out)) hb); have GE357 := Aside0.mk (Rgn.ge hg HB.out); replace HB := Aside0.mk (below_step (Rgn.bq HB.out) hb); have NB356_357 := Aside0.mk (Rgn.nl hg BK356.out); have NB357_356 := Aside0.mk (Rgn.ng hg BK356.out); replace BK356 := Aside0.mk (Rgn.bb BK356.out hb); clear hb hbox hg; have hnb82 := NB357_356.out; have hnc82 := NB356_357.out; obtain ⟨hcz83_0, hcz83_1, hcz83_2, hfz83_0, hfz83_1, hfz83_2⟩ := Rgn.c3 BK357.out))
   go_ret
   exact ⟨by first | rfl | (simp [errW_none, errW_some] <;> rfl) | (simp [*, errW_none, errW_some] <;> rfl), _, _, (Rgn.kb BK356.out), by (with_reducible repeat (first | apply Kd.R_alloc | apply Kd.R_drewN | apply Kd.R_drew)); exact HO0_0.out, by (with_reducible repeat (first | apply Kd.S_alloc | apply Kd.S_drewN | apply Kd.S_drew)); exact Kd.S_mono HO0_1.out (fun _ hk => ⟨hk.1.1.1, hk.1.1.2⟩), Rgn.bq HB.out, by repeat (first | (with_reducible first | exact HK.out | apply Kept.alloc | apply Kept.drewN | apply Kept.drew | refine Kept.setCell ?_ (.inl (.inr rfl)) _ | refine Kept.setCell ?_ (.inr GW357.out) _) | exact HK.out)⟩

end Go.Proofs.Ytdhjhadcadcceaa.PFnDisk
