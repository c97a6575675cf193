-- written by a program of this session (wip/src/print2.py)
import Derived.Test.YtdhjhadcadcceaaPFnDiskx0
import Derived.Test.YtdhjhadcadcceaaPFnDiskx1
import Derived.Test.YtdhjhadcadcceaaPFnDiskx2
import Derived.Test.YtdhjhadcadcceaaPFnDiskx3
namespace Go.Proofs.Ytdhjhadcadcceaa.PFnDisk
open Go.RowKit Go.Proofs.YtdhjhadcadcceaaW.PrintWords Go.Proofs.YtdhjhadcadcceaaW.PrintLast Go.Proofs.YtdhjhadcadcceaaW.PrintMore
attribute [local go_sem] max2_int min2_int max_two min_two max_three min_three max_four min_four   -- for this text's walks alone
set_option linter.unusedVariables false
set_option linter.unusedSimpArgs false

/-! ### spec_l1DrawDisk: function 81 -/
mutual
def spec_l1DrawDisk.l0 : Nat → Int → Int → List Int → Int → Int → List Int → List (S62) → Option (List Int × (List (S62)) × Int × Int)
 | 0, _, _, _, _, _, _, _ => none
 | k + 1, x3, x5, x1000, x1001, x1002, x215000, x215001 => if x5 < x3 then ((spec_l1Chance.f x1000 x1001 x1002 3).bind fun bt215 => (if bt215.1 = true then (spec_l1DrawDisk.l0 k x3 (wrap64 (x5 + 1)) x1000 bt215.2.1 bt215.2.2 x215000 x215001) else ((spec_l1Fill.f k x1000 bt215.2.1 bt215.2.2).bind fun bt218 => ((spec_l1Put.f k x215000 x5 bt218.1).bind fun t223 => (spec_l1DrawDisk.l0 k x3 (wrap64 (x5 + 1)) x1000 bt218.2.1 bt218.2.2 t223 x215001))))) else ((spec_l1Next.f x1000 x1001 x1002 30).bind fun bt224 => ((spec_l1Next.f x1000 bt224.2.1 bt224.2.2 (wrap64 (4 + bt224.2.2))).bind fun bt227 => (if bt224.1 = 0 then ((spec_l1Next.f x1000 bt227.2.1 bt227.2.2 2).bind fun bt230 => (spec_l1DrawDisk.j1 k x3 bt224.1 (wrap64 (600 + bt230.1)) x1000 bt230.2.1 bt230.2.2 x215000 x215001)) else (spec_l1DrawDisk.j1 k x3 bt224.1 bt227.1 x1000 bt227.2.1 bt227.2.2 x215000 x215001))))
def spec_l1DrawDisk.j1 : Nat → Int → Int → Int → List Int → Int → Int → List Int → List (S62) → Option (List Int × (List (S62)) × Int × Int)
 | 0, _, _, _, _, _, _, _, _ => none
 | k + 1, x3, x6, x7, x1000, x1001, x1002, x215000, x215001 => spec_l1DrawDisk.l1 k x3 x6 x7 0 x1000 x1001 x1002 x215000 x215001
def spec_l1DrawDisk.l1 : Nat → Int → Int → Int → Int → List Int → Int → Int → List Int → List (S62) → Option (List Int × (List (S62)) × Int × Int)
 | 0, _, _, _, _, _, _, _, _, _ => none
 | k + 1, x3, x6, x7, x8, x1000, x1001, x1002, x215000, x215001 => if x8 < x7 then ((spec_l1Next.f x1000 x1001 x1002 x3).bind fun bt233 => ((spec_l1Fill.f k x1000 bt233.2.1 bt233.2.2).bind fun bt236 => (if x215001.length < 4398046511104 then (spec_l1DrawDisk.l1 k x3 x6 x7 (wrap64 (x8 + 1)) x1000 bt236.2.1 bt236.2.2 x215000 (x215001 ++ [(⟨bt233.1, bt236.1⟩ : S62)])) else (none)))) else (if x6 = 1 then (if x215000.length < 140737488355328 then (spec_l1DrawDisk.j3 k x3 x6 x1000 x1001 x1002 (x215000 ++ [0]) x215001) else (none)) else (spec_l1DrawDisk.j3 k x3 x6 x1000 x1001 x1002 x215000 x215001))
def spec_l1DrawDisk.j3 : Nat → Int → Int → List Int → Int → Int → List Int → List (S62) → Option (List Int × (List (S62)) × Int × Int)
 | 0, _, _, _, _, _, _, _ => none
 | k + 1, x3, x6, x1000, x1001, x1002, x215000, x215001 => if x6 = 2 then (spec_l1DrawDisk.j4 k x3 x6 (decide ((x215001.length : Int) > 0)) x1000 x1001 x1002 x215000 x215001) else (spec_l1DrawDisk.j4 k x3 x6 false x1000 x1001 x1002 x215000 x215001)
def spec_l1DrawDisk.j4 : Nat → Int → Int → Bool → List Int → Int → Int → List Int → List (S62) → Option (List Int × (List (S62)) × Int × Int)
 | 0, _, _, _, _, _, _, _, _ => none
 | k + 1, x3, x6, x72, x1000, x1001, x1002, x215000, x215001 => if x72 = true then (if 0 ≤ (wrap64 ((x215001.length : Int) - 1)) then (if (wrap64 ((x215001.length : Int) - 1)) < (x215001.length : Int) then (spec_l1DrawDisk.j5 k x6 x1000 x1001 x1002 x215000 (x215001.set ((wrap64 ((x215001.length : Int) - 1)) : Int).toNat (⟨x3, (rd_T62 x215001 (wrap64 ((x215001.length : Int) - 1))).f1⟩ : S62))) else (none)) else (none)) else (spec_l1DrawDisk.j5 k x6 x1000 x1001 x1002 x215000 x215001)
def spec_l1DrawDisk.j5 : Nat → Int → List Int → Int → Int → List Int → List (S62) → Option (List Int × (List (S62)) × Int × Int)
 | 0, _, _, _, _, _, _ => none
 | k + 1, x6, x1000, x1001, x1002, x215000, x215001 => if x6 = 3 then (spec_l1DrawDisk.j6 k x6 (decide ((x215001.length : Int) > 0)) x1000 x1001 x1002 x215000 x215001) else (spec_l1DrawDisk.j6 k x6 false x1000 x1001 x1002 x215000 x215001)
def spec_l1DrawDisk.j6 : Nat → Int → Bool → List Int → Int → Int → List Int → List (S62) → Option (List Int × (List (S62)) × Int × Int)
 | 0, _, _, _, _, _, _, _ => none
 | k + 1, x6, x89, x1000, x1001, x1002, x215000, x215001 => if x89 = true then (if 0 < (x215001.length : Int) then (if 1 ≤ (((rd_T62 x215001 0).f1).length : Int) then (spec_l1DrawDisk.j7 k x6 x1000 x1001 x1002 x215000 (x215001.set (0 : Int).toNat (⟨(rd_T62 x215001 0).f0, (((rd_T62 x215001 0).f1).drop 1)⟩ : S62))) else (none)) else (none)) else (spec_l1DrawDisk.j7 k x6 x1000 x1001 x1002 x215000 x215001)
def spec_l1DrawDisk.j7 : Nat → Int → List Int → Int → Int → List Int → List (S62) → Option (List Int × (List (S62)) × Int × Int)
 | 0, _, _, _, _, _, _ => none
 | k + 1, x6, x1000, x1001, x1002, x215000, x215001 => if x6 = 4 then (if x6 = 5 then ((spec_l1Next.f x1000 x1001 x1002 2).bind fun bt258 => (if 0 ≤ (wrap64 ((wrap64 (2048 + bt258.1)) * 64)) then (if (wrap64 ((wrap64 (2048 + bt258.1)) * 64) : Int).toNat ≤ 281474976710656 then (some ((List.replicate (wrap64 ((wrap64 (2048 + bt258.1)) * 64) : Int).toNat 0), x215001, bt258.2.1, bt258.2.2)) else (none)) else (none))) else (some ((([] : List Int)), x215001, x1001, x1002))) else (if x6 = 5 then ((spec_l1Next.f x1000 x1001 x1002 2).bind fun bt264 => (if 0 ≤ (wrap64 ((wrap64 (2048 + bt264.1)) * 64)) then (if (wrap64 ((wrap64 (2048 + bt264.1)) * 64) : Int).toNat ≤ 281474976710656 then (some ((List.replicate (wrap64 ((wrap64 (2048 + bt264.1)) * 64) : Int).toNat 0), x215001, bt264.2.1, bt264.2.2)) else (none)) else (none))) else (some (x215000, x215001, x1001, x1002)))
end
def spec_l1DrawDisk.f (k : Nat) (s0_0 : List Int) (s0_1 : Int) (s0_2 : Int) : Option (List Int × (List (S62)) × Int × Int) := (spec_l1Next.f s0_0 s0_1 s0_2 8).bind fun bt205 => ((spec_NewDisk.f (wrap64 (1 + bt205.1))).bind fun bt208 => (spec_l1DrawDisk.l0 k (wrap64 (1 + bt205.1)) 0 s0_0 bt205.2.1 bt205.2.2 bt208.1 bt208.2))
def spec_l1DrawDisk.T15 : Bool × List (List Nat × List Nat) := (true, [([], []), ([0], [0]), ([], []), ([], []), ([2, 3], [2, 3]), ([], []), ([5, 4], [5]), ([4, 6], [4, 6]), ([7], [7]), ([1, 8, 6], [1, 8]), ([0, 1, 2, 3, 4, 5, 6, 7, 8, 9], []), ([10, 9, 9, 0, 1, 2, 3, 4, 5, 6, 7, 8, 9], [9, 10])])
def spec_l1DrawDisk.B15 : List Nat := [0, 1, 0, 0, 12, 0, 60, 124, 252, 511, 1023, 2047]
theorem spec_l1DrawDisk.tab15 : rtab .any (opsOf Try.f81 15) = spec_l1DrawDisk.T15 := by kernel_rfl
theorem spec_l1DrawDisk.bits15 : waitsOk spec_l1DrawDisk.T15.2 spec_l1DrawDisk.B15 = true := by kernel_rfl
def spec_l1DrawDisk.T21 : Bool × List (List Nat × List Nat) := (true, [([], []), ([0], [0]), ([], []), ([2], [2]), ([3], [3]), ([4], [4]), ([5], [5]), ([6], [6]), ([1, 0, 1, 2, 3, 4, 5, 6, 7], [1]), ([8, 0, 1, 2, 3, 4, 5, 6, 7], [8]), ([9, 7, 0, 1, 2, 3, 4, 5, 6, 7], [7, 9])])
def spec_l1DrawDisk.B21 : List Nat := [0, 1, 0, 4, 12, 28, 60, 124, 255, 511, 1023]
theorem spec_l1DrawDisk.tab21 : rtab .any (opsOf Try.f81 21) = spec_l1DrawDisk.T21 := by kernel_rfl
theorem spec_l1DrawDisk.bits21 : waitsOk spec_l1DrawDisk.T21.2 spec_l1DrawDisk.B21 = true := by kernel_rfl
set_option maxHeartbeats 8000000 in
set_option maxRecDepth 100000 in
theorem spec_l1DrawDisk.calls (k : Nat) (g : Nat) (s0_0 : List Int) (s0_1 : Int) (s0_2 : Int) (r1 : List Int) (r2 : List (S62)) (r3 : Int) (r4 : Int) (w0 w : World) (hI : IsS90 w0 w g s0_0 s0_1 s0_2) (hB : Below w0.heap.size w0 w) (h : spec_l1DrawDisk.f k s0_0 s0_1 s0_2 = some (r1, r2, r3, r4)) :
  Calls Try.prog 81 #[.pointer (some ⟨g, 0, none⟩)] w fun e w' => ∃ v0_ v1_ : Value, e = .returned (.agg #[v0_, v1_]) ∧ Kd.R (Kd.int .u8) 5 w' w.heap.size (fun k_ => (w.heap.size ≤ k_)) v0_ r1 ∧ Kd.N k62 62 w' w.heap.size (fun k_ => (w.heap.size ≤ k_) ∧ some k_ ≠ (v0_ : Value).ownBlock) v1_ r2 ∧ IsS90 w0 w' g s0_0 r3 r4 ∧ Below w0.heap.size w0 w' ∧ KeepBut w w' g none := by
 have hu29 := Try.underlying29
 have hu62 := Try.underlying62
 have HI0 := Aside0.mk hI
 have HK := Aside0.mk (KeepBut.refl w g none)
 have HL := Aside0.mk hB.size
 clear hI
 have HW0 := Aside0.mk hB.size
 have HB := Aside0.mk hB
 clear hB
 have H : ((spec_l1Next.f s0_0 s0_1 s0_2 8).bind fun bt205 => ((spec_NewDisk.f (wrap64 (1 + bt205.1))).bind fun bt208 => (spec_l1DrawDisk.l0 k (wrap64 (1 + bt205.1)) 0 s0_0 bt205.2.1 bt205.2.2 bt208.1 bt208.2))) = some (r1, r2, r3, r4) := h
 clear h
 replace H := Option.bind_eq_some_iff.mp H
 obtain ⟨⟨t205, t206, t207⟩, A20, H⟩ := H
 replace H : ((spec_NewDisk.f (wrap64 (1 + t205))).bind fun bt208 => (spec_l1DrawDisk.l0 k (wrap64 (1 + t205)) 0 s0_0 t206 t207 bt208.1 bt208.2)) = some (r1, r2, r3, r4) := H
 have A2 := Aside0.mk A20
 clear A20
 replace H := Option.bind_eq_some_iff.mp H
 obtain ⟨⟨t208, t211⟩, A30, H⟩ := H
 replace H : (spec_l1DrawDisk.l0 k (wrap64 (1 + t205)) 0 s0_0 t206 t207 t208 t211) = some (r1, r2, r3, r4) := H
 have A3 := Aside0.mk A30
 clear A30
 have H' := Aside0.mk H
 clear H
 go_enter Try.func81, Try.ntmps81
 go_wp2_with (first | ((with_reducible refine gate_dst (N := 2) rfl ?_); (try (refine gate_guard (by rfl) ?_; dsimp only)); refine Rgn.bx 2 #[.slice none 0 0, .slice none 0 0] 29 ?_; intro gb204 hg w4 hbox hb; replace HB := Aside0.mk (below_step (Rgn.bs HB.out (IsS90.ge HI0.out)) hb); have BK204 := Aside0.mk (hbox); have GW204 := Aside0.mk ((by rw [hg]; exact (keep_size (w := w) (g := g) (row := none) (Rgn.kbq HK.out)) : w.heap.size ≤ gb204)); have GE204 := Aside0.mk ((Nat.le_trans HW0.out (by rw [hg]; exact (keep_size (w := w) (g := g) (row := none) (Rgn.kbq HK.out)) : w.heap.size ≤ gb204) : w0.heap.size ≤ gb204)); replace HK := Aside0.mk (KeepBut.trans (Rgn.kbq HK.out) (KeepBut.of_below hb g none) (.inl rfl)); have NB0_204 := Aside0.mk ((by rw [hg]; exact Nat.ne_of_lt (IsS90.lt (show IsS90 w0 _ g s0_0 s0_1 s0_2 from IsS90.q HI0.out)) : g ≠ gb204)); have NB204_0 := Aside0.mk ((by rw [hg]; exact Nat.ne_of_gt (IsS90.lt (show IsS90 w0 _ g s0_0 s0_1 s0_2 from IsS90.q HI0.out)) : gb204 ≠ g)); replace HI0 := Aside0.mk (IsS90.below (IsS90.q HI0.out) hb); clear hb hbox hg) | ((with_reducible refine gate_callee (f := 82) rfl ?_); refine Rgn.gl (some 10) Try.func82 #[.pointer (some ⟨g, 0, none⟩), .int .i64 8] ?_; (with_reducible refine (spec_l1Next.calls g s0_0 s0_1 s0_2 8 t205 t206 t207 w0 _ ?side1 ?side2 A2.out).mono ?_); (case side1 => repeat (first | (with_reducible first | exact HI0.out | apply IsS90.alloc | apply IsS90.drewN | apply IsS90.drew | apply IsS90.set_1 | apply IsS90.set_2 | refine IsS90.far ?_ NB0_204.out _) | exact HI0.out)); (case side2 => repeat (first | (with_reducible first | exact HB.out | apply below_alloc | apply pw_below_drewN | apply below_drew1 | refine below_set ?_ (IsS90.ge HI0.out) | refine below_set ?_ GE204.out) | exact HB.out)); rintro e w5 ⟨rfl, hi, hb, hk⟩; refine ⟨_, rfl, ?_⟩; replace BK204 := Aside0.mk (Rgn.kb2 hk BK204.out NB204_0.out); replace HK := Aside0.mk (KeepBut.trans (Rgn.kbq HK.out) hk (.inl rfl)); replace HB := Aside0.mk (hb); replace HI0 := Aside0.mk (hi); (try clear hb); (try clear hk); (try clear hi)) | ((with_reducible refine gate_callee (f := 20) rfl ?_); refine Rgn.gl (some 13) Try.func20 #[.int .i64 (wrap64 (1 + t205))] ?_; (with_reducible refine (spec_NewDisk.calls (wrap64 (1 + t205)) t208 t211 _ A3.out).mono ?_); rintro e w6 ⟨v209, v212, rfl, ho0, ho1, hb⟩; refine ⟨_, rfl, ?_⟩; have HO210 := Aside0.mk (Kd.R_lower (Kd.R_newM (M := fun k_ => (w.heap.size ≤ k_)) ho0 (keep_size (w := w) (g := g) (row := none) (Rgn.kbq HK.out)) (fun k_ h_ => h_)) (keep_size (w := w) (g := g) (row := none) (Rgn.kbq HK.out))); have HO213 := Aside0.mk (Kd.N_lower (Kd.N_mono (ok' := fun k_ => (w.heap.size ≤ k_) ∧ some k_ ≠ (v209 : Value).ownBlock ∧ k_ ≠ gb204 ∧ k_ ≠ g) (Kd.S_N (Kd.S_bound ho1)) (fun k_ hk_ => ⟨(Nat.le_trans (keep_size (w := w) (g := g) (row := none) (Rgn.kbq HK.out)) hk_.2.1), hk_.1, (Kd.freshB (g := gb204) (o := .cells #[.slice none 0 0, .slice none 0 0] 29 (0, 0)) (Rgn.kb BK204.out) k_ hk_.2.1), (IsS90.fresh (IsS90.q HI0.out) k_ hk_.2.1)⟩)) (keep_size (w := w) (g := g) (row := none) (Rgn.kbq HK.out))); replace BK204 := Aside0.mk (Rgn.bb BK204.out hb); replace HK := Aside0.mk (KeepBut.trans (Rgn.kbq HK.out) (KeepBut.of_below hb g none) (.inl rfl)); replace HB := Aside0.mk (below_step (Rgn.bs HB.out (IsS90.ge HI0.out)) hb); replace HI0 := Aside0.mk (IsS90.below (IsS90.q HI0.out) hb); (try clear hb); (try clear ho0); (try clear ho1)) | ((with_reducible refine gate_dst (N := 4) rfl ?_); (try (refine gate_guard (by rfl) ?_; dsimp only)); refine Rgn.bx 4 #[.slice none 0 0, .slice none 0 0] 29 ?_; intro gb214 hg w7 hbox hb; replace HO210 := Aside0.mk (Kd.R_below (Rgn.rq HO210.out) hb); replace HO213 := Aside0.mk (Kd.N_below (Kd.N_elderB (Rgn.nq HO213.out) gb214 (Nat.le_of_eq hg.symm)) hb); replace HB := Aside0.mk (below_step (Rgn.bs HB.out (IsS90.ge HI0.out)) hb); have BK214 := Aside0.mk (hbox); have GW214 := Aside0.mk ((by rw [hg]; exact (keep_size (w := w) (g := g) (row := none) (Rgn.kbq HK.out)) : w.heap.size ≤ gb214)); have GE214 := Aside0.mk ((Nat.le_trans HW0.out (by rw [hg]; exact (keep_size (w := w) (g := g) (row := none) (Rgn.kbq HK.out)) : w.heap.size ≤ gb214) : w0.heap.size ≤ gb214)); replace HK := Aside0.mk (KeepBut.trans (Rgn.kbq HK.out) (KeepBut.of_below hb g none) (.inl rfl)); have NB204_214 := Aside0.mk (Rgn.nl hg BK204.out); have NB214_204 := Aside0.mk (Rgn.ng hg BK204.out); replace BK204 := Aside0.mk (Rgn.bb BK204.out hb); have NB0_214 := Aside0.mk ((by rw [hg]; exact Nat.ne_of_lt (IsS90.lt (show IsS90 w0 _ g s0_0 t206 t207 from IsS90.q HI0.out)) : g ≠ gb214)); have NB214_0 := Aside0.mk ((by rw [hg]; exact Nat.ne_of_gt (IsS90.lt (show IsS90 w0 _ g s0_0 t206 t207 from IsS90.q HI0.out)) : gb214 ≠ g)); replace HI0 := Aside0.mk (IsS90.below (IsS90.q HI0.out) hb); clear hb hbox hg; obtain ⟨Ao8, co8, eo8⟩ := Kd.R_slice HO210.out; subst eo8; have hnb9 := NB214_204.out; have hnc9 := NB204_214.out; have hnb10 := NB214_0.out; have hnc10 := NB0_214.out; obtain ⟨hcz11_0, hcz11_1, hfz11_0, hfz11_1⟩ := Rgn.c2 BK214.out; obtain ⟨Ao12, co12, eo12⟩ := Kd.N_slice HO213.out; subst eo12))
 go_loopg [5] k (fun kq v5 w' => ∃ (x5_1 : Int) (x1001_1 : Int) (x1002_1 : Int) (x215000_1 : List Int) (u215000 : Value), v5 = .int .i64 x5_1 ∧ Aside0 (spec_l1DrawDisk.l0 kq (wrap64 (1 + t205)) x5_1 s0_0 x1001_1 x1002_1 x215000_1 t211 = some (r1, r2, r3, r4)) ∧ Aside0 (kq ≤ k) ∧ Aside0 (Kd.R (Kd.int .u8) 5 w' w.heap.size (fun k_ => (w.heap.size ≤ k_)) u215000 x215000_1) ∧ Aside0 (Kd.N k62 62 w' w.heap.size (fun k_ => (w.heap.size ≤ k_) ∧ some k_ ≠ (u215000 : Value).ownBlock ∧ k_ ≠ gb204 ∧ k_ ≠ gb214 ∧ k_ ≠ g) (.slice Ao12 t211.length co12) t211) ∧ Aside0 (w'.heap[gb204]? = some (.cells #[(.slice none 0 0), (.slice none 0 0)] 29 (0, 0))) ∧ Aside0 (w'.heap[gb214]? = some (.cells #[u215000, (.slice Ao12 t211.length co12)] 29 (0, 0))) ∧ Aside0 (IsS90 w0 w' g s0_0 x1001_1 x1002_1) ∧ Aside0 (KeepBut w w' g none) ∧ Aside0 (Below w0.heap.size w0 w'))
 case atStart => exact ⟨(0), (t206), (t207), (t208), (.slice Ao8 t208.length co8), (by first | rfl | (simp; done) | (simp [*]; done)), H', ⟨Nat.le_refl _⟩, ⟨by (with_reducible repeat (first | apply Kd.R_alloc | apply Kd.R_drewN | apply Kd.R_drew)); exact Kd.R_mono (Kd.R_far (p := ⟨gb214, 1, none⟩) (Kd.R_far (p := ⟨gb214, 0, none⟩) (Kd.R_types HO210.out BK214.out (by decide)) (fun _ hk => hk.2) (.slice Ao8 t208.length co8)) (fun _ hk => hk.2) (.slice Ao12 t211.length co12)) (fun _ hk => hk.1.1)⟩, ⟨by (with_reducible repeat (first | apply Kd.N_alloc | apply Kd.N_drewN | apply Kd.N_drew)); exact Kd.N_mono (Kd.N_far (p := ⟨gb214, 1, none⟩) (Kd.N_far (p := ⟨gb214, 0, none⟩) (Kd.N_mono HO213.out (fun k_ hk => (⟨hk, hk.2⟩ : _ ∧ k_ ≠ gb214))) (fun _ hk => hk.2) (.slice Ao8 t208.length co8)) (fun _ hk => hk.2) (.slice Ao12 t211.length co12)) (fun _ hk => ⟨hk.1.1.1, ⟨hk.1.1.2.1, ⟨hk.1.1.2.2.1, ⟨hk.1.2, hk.1.1.2.2.2⟩⟩⟩⟩)⟩, ⟨Rgn.kf BK204.out⟩, ⟨by (with_reducible repeat (first | refine blk_drewN ?_ _ | refine blk_drew ?_ | refine blk_alloc ?_ _)); refine blk_put (cs := #[.slice Ao8 t208.length co8, .slice none 0 0]) ?_ 1 _ rfl; (with_reducible repeat (first | refine blk_drewN ?_ _ | refine blk_drew ?_ | refine blk_alloc ?_ _)); refine blk_put (cs := #[.slice none 0 0, .slice none 0 0]) ?_ 0 _ rfl; (with_reducible repeat (first | refine blk_drewN ?_ _ | refine blk_drew ?_ | refine blk_alloc ?_ _)); exact BK214.out⟩, ⟨IsS90.q HI0.out⟩, ⟨Rgn.kbq HK.out⟩, ⟨Rgn.bs HB.out (IsS90.ge HI0.out)⟩⟩
 case round =>
  clear H'
  try clear c1
  try clear c2
  try clear p2
  try clear p6
  try clear c8
  try clear c9
  try clear c10
  try clear hcz11_0 hcz11_1 hfz11_0 hfz11_1
  obtain ⟨x5_1, x1001_1, x1002_1, x215000_1, u215000, rfl, HA, HK1, HO_215000, HO_215001, BK204, BK214, HI0, HK, HB⟩ := hrel
  cases gk with
  | zero => exact absurd HA.out (by simp [spec_l1DrawDisk.l0])
  | succ k1 =>
   have H := HA.out
   clear HA
   simp only [spec_l1DrawDisk.l0] at H
   by_cases c13 : x5_1 < (wrap64 (1 + t205))
   ·
    rw [if_pos c13] at H
    have c13b0 : decide (x5_1 < (wrap64 (1 + t205))) = true := decide_eq_true c13
    clear c13
    replace H := Option.bind_eq_some_iff.mp H
    obtain ⟨⟨t215, t216, t217⟩, A140, H⟩ := H
    replace H : (if t215 = true then (spec_l1DrawDisk.l0 k1 (wrap64 (1 + t205)) (wrap64 (x5_1 + 1)) s0_0 t216 t217 x215000_1 t211) else ((spec_l1Fill.f k1 s0_0 t216 t217).bind fun bt218 => ((spec_l1Put.f k1 x215000_1 x5_1 bt218.1).bind fun t223 => (spec_l1DrawDisk.l0 k1 (wrap64 (1 + t205)) (wrap64 (x5_1 + 1)) s0_0 bt218.2.1 bt218.2.2 t223 t211)))) = some (r1, r2, r3, r4) := H
    have A14 := Aside0.mk A140
    clear A140
    by_cases c15 : t215 = true
    ·
     subst c15
     have H1 : (spec_l1DrawDisk.l0 k1 (wrap64 (1 + t205)) (wrap64 (x5_1 + 1)) s0_0 t216 t217 x215000_1 t211) = some (r1, r2, r3, r4) := by rw [if_pos rfl] at H; exact H
     clear H
     have H := H1
     clear H1
     have H' := Aside0.mk H
     clear H
     go_wp2_with (first | ((with_reducible refine gate_callee (f := 84) rfl ?_); refine Rgn.gl (some 20) Try.func84 #[.pointer (some ⟨g, 0, none⟩), .int .i64 3] ?_; (with_reducible refine (spec_l1Chance.calls g s0_0 x1001_1 x1002_1 3 true t216 t217 w0 _ ?side1 ?side2 A14.out).mono ?_); (case side1 => repeat (first | (with_reducible first | exact HI0.out | apply IsS90.alloc | apply IsS90.drewN | apply IsS90.drew | apply IsS90.set_1 | apply IsS90.set_2 | refine IsS90.far ?_ NB0_204.out _ | refine IsS90.far ?_ NB0_214.out _) | exact HI0.out)); (case side2 => repeat (first | (with_reducible first | exact HB.out | apply below_alloc | apply pw_below_drewN | apply below_drew1 | refine below_set ?_ (IsS90.ge HI0.out) | refine below_set ?_ GE204.out | refine below_set ?_ GE214.out) | exact HB.out)); rintro e w16 ⟨rfl, hi, hb, hk⟩; refine ⟨_, rfl, ?_⟩; replace HO_215000 := Aside0.mk (Kd.R_mono (Kd.R_keep (IsS90.apart (show IsS90 w0 _ g s0_0 x1001_1 x1002_1 from IsS90.q HI0.out) (Rgn.rq HO_215000.out) (by decide)) hk (fun _ h => h.2)) (fun _ h => h.1)); replace HO_215001 := Aside0.mk (Kd.N_mono (Kd.N_keep (Kd.N_mono (ok := fun k_ => (((w.heap.size ≤ k_)) ∧ (some k_ ≠ (u215000 : Value).ownBlock ∧ (k_ ≠ gb204 ∧ (k_ ≠ gb214 ∧ k_ ≠ g))))) (Rgn.nq HO_215001.out) (fun k_ hk_ => (⟨hk_, hk_.2.2.2.2⟩ : _ ∧ k_ ≠ g))) hk (fun _ h => h.2)) (fun _ h => h.1)); replace BK204 := Aside0.mk (Rgn.kb2 hk BK204.out NB204_0.out); replace BK214 := Aside0.mk (Rgn.kb2 hk BK214.out NB214_0.out); replace HK := Aside0.mk (KeepBut.trans (Rgn.kbq HK.out) hk (.inl rfl)); replace HB := Aside0.mk (hb); replace HI0 := Aside0.mk (hi); (try clear hb); (try clear hk); (try clear hi)))
     go_roundg k1
     case measure => have := HK1.out; omega
     case rel => exact ⟨(wrap64 (x5_1 + 1)), (t216), (t217), (x215000_1), (u215000), (by first | rfl | (simp; done) | (simp [*]; done)), H', ⟨by have := HK1.out; omega⟩, ⟨Rgn.rq HO_215000.out⟩, ⟨by (with_reducible repeat (first | apply Kd.N_alloc | apply Kd.N_drewN | apply Kd.N_drew)); exact HO_215001.out⟩, ⟨Rgn.kb BK204.out⟩, ⟨Rgn.kb BK214.out⟩, ⟨IsS90.q HI0.out⟩, ⟨Rgn.kbq HK.out⟩, ⟨Rgn.bs HB.out (IsS90.ge HI0.out)⟩⟩
    ·
     replace c15 := Bool.eq_false_iff.mpr c15
     subst c15
     have H1 : ((spec_l1Fill.f k1 s0_0 t216 t217).bind fun bt218 => ((spec_l1Put.f k1 x215000_1 x5_1 bt218.1).bind fun t223 => (spec_l1DrawDisk.l0 k1 (wrap64 (1 + t205)) (wrap64 (x5_1 + 1)) s0_0 bt218.2.1 bt218.2.2 t223 t211))) = some (r1, r2, r3, r4) := by rw [if_neg (show ¬ (false = true) by decide)] at H; exact H
     clear H
     have H := H1
     clear H1
     replace H := Option.bind_eq_some_iff.mp H
     obtain ⟨⟨t218, t221, t222⟩, A170, H⟩ := H
     replace H : ((spec_l1Put.f k1 x215000_1 x5_1 t218).bind fun t223 => (spec_l1DrawDisk.l0 k1 (wrap64 (1 + t205)) (wrap64 (x5_1 + 1)) s0_0 t221 t222 t223 t211)) = some (r1, r2, r3, r4) := H
     have A17 := Aside0.mk A170
     clear A170
     replace H := Option.bind_eq_some_iff.mp H
     obtain ⟨t223, A180, H⟩ := H
     replace H : (spec_l1DrawDisk.l0 k1 (wrap64 (1 + t205)) (wrap64 (x5_1 + 1)) s0_0 t221 t222 t223 t211) = some (r1, r2, r3, r4) := H
     have A18 := Aside0.mk A180
     clear A180
     have H' := Aside0.mk H
     clear H
     try go_wp2_with (first | ((with_reducible refine gate_callee (f := 84) rfl ?_); refine Rgn.gl (some 20) Try.func84 #[.pointer (some ⟨g, 0, none⟩), .int .i64 3] ?_; (with_reducible refine (spec_l1Chance.calls g s0_0 x1001_1 x1002_1 3 false t216 t217 w0 _ ?side1 ?side2 A14.out).mono ?_); (case side1 => repeat (first | (with_reducible first | exact HI0.out | apply IsS90.alloc | apply IsS90.drewN | apply IsS90.drew | apply IsS90.set_1 | apply IsS90.set_2 | refine IsS90.far ?_ NB0_204.out _ | refine IsS90.far ?_ NB0_214.out _) | exact HI0.out)); (case side2 => repeat (first | (with_reducible first | exact HB.out | apply below_alloc | apply pw_below_drewN | apply below_drew1 | refine below_set ?_ (IsS90.ge HI0.out) | refine below_set ?_ GE204.out | refine below_set ?_ GE214.out) | exact HB.out)); rintro e w19 ⟨rfl, hi, hb, hk⟩; refine ⟨_, rfl, ?_⟩; replace HO_215000 := Aside0.mk (Kd.R_mono (Kd.R_keep (IsS90.apart (show IsS90 w0 _ g s0_0 x1001_1 x1002_1 from IsS90.q HI0.out) (Rgn.rq HO_215000.out) (by decide)) hk (fun _ h => h.2)) (fun _ h => h.1)); replace HO_215001 := Aside0.mk (Kd.N_mono (Kd.N_keep (Kd.N_mono (ok := fun k_ => (((w.heap.size ≤ k_)) ∧ (some k_ ≠ (u215000 : Value).ownBlock ∧ (k_ ≠ gb204 ∧ (k_ ≠ gb214 ∧ k_ ≠ g))))) (Rgn.nq HO_215001.out) (fun k_ hk_ => (⟨hk_, hk_.2.2.2.2⟩ : _ ∧ k_ ≠ g))) hk (fun _ h => h.2)) (fun _ h => h.1)); replace BK204 := Aside0.mk (Rgn.kb2 hk BK204.out NB204_0.out); replace BK214 := Aside0.mk (Rgn.kb2 hk BK214.out NB214_0.out); replace HK := Aside0.mk (KeepBut.trans (Rgn.kbq HK.out) hk (.inl rfl)); replace HB := Aside0.mk (hb); replace HI0 := Aside0.mk (hi); (try clear hb); (try clear hk); (try clear hi)))
     replace HO_215000 := Aside0.mk (Kd.R_drew HO_215000.out)
     replace HO_215001 := Aside0.mk (Kd.N_drew HO_215001.out)
     replace BK204 := Aside0.mk (blk_drew BK204.out)
     replace BK214 := Aside0.mk (blk_drew BK214.out)
     replace HI0 := Aside0.mk (IsS90.drew HI0.out)
     replace HK := Aside0.mk (keep_drew HK.out)
     replace HB := Aside0.mk (below_drew1 HB.out)
     refine start_ (n := 6) (S := fun w' => w'.cell? ⟨gb214, 0, none⟩ = some (u215000) ∧ w'.cell? ⟨gb214, 1, none⟩ = some (.slice Ao12 t211.length co12)) (ds := []) #[false, false, false, false, false, false] (by kernel_rfl) rfl rfl ⟨(blk_cell BK214.out 0).trans rfl, (blk_cell BK214.out 1).trans rfl⟩ (fun hHeld => ?_)
     generalize w19.drew = w20 at HO_215000 HO_215001 BK204 BK214 HI0 HK HB hHeld ⊢
     refine pure_ (i := 0) (N := some 22) (v := ?_) (a' := ?_) #[true, false, false, false, false, false] rfl rfl (by kernel_rfl) (fun _ _ _ h => h) (Or.inl ⟨by rfl, ?_⟩) ?_ ?_
     rotate_left
     ·
      intro w'
      go_simp
      with_reducible rfl
     rotate_left
     ·
      simp only [Act.put, List.setIfInBounds_toArray, List.set_cons_zero, List.set_cons_succ, i64_w, i32_w]
      rfl
     refine pure_ (i := 2) (N := some 24) (v := ?_) (a' := ?_) #[true, false, true, false, false, false] rfl rfl (by kernel_rfl) (fun _ _ _ h => h) (Or.inl ⟨by rfl, ?_⟩) ?_ ?_
     rotate_left
     ·
      intro w'
      go_simp
      with_reducible rfl
     rotate_left
     ·
      simp only [Act.put, List.setIfInBounds_toArray, List.set_cons_zero, List.set_cons_succ, i64_w, i32_w]
      rfl
     refine pure_ (i := 3) (N := some 25) (v := ?_) (a' := ?_) #[true, false, true, true, false, false] rfl rfl (by kernel_rfl) (fun _ _ _ h => h) (Or.inl ⟨by rfl, ?_⟩) ?_ ?_
     rotate_left
     ·
      intro w'
      go_simp
      with_reducible rfl
     rotate_left
     ·
      simp only [Act.put, List.setIfInBounds_toArray, List.set_cons_zero, List.set_cons_succ, i64_w, i32_w]
      rfl
     refine take_ (i := 1) (N := some 23) (v := ?_) (a' := ?_) #[true, true, true, true, false, false] rfl rfl (by kernel_rfl) (fun _ _ _ h => h) (Or.inl ⟨by rfl, ?_⟩) hHeld ?_ ?_
     rotate_left
     ·
      rintro w' ⟨s0, s1⟩
      go_simp
      with_reducible rfl
     rotate_left
     ·
      simp only [Act.put, List.setIfInBounds_toArray, List.set_cons_zero, List.set_cons_succ, i64_w, i32_w]
      rfl
     refine one_ (i := 4) (N := some 26) #[true, true, true, true, true, false] rfl rfl (by kernel_rfl) (by decide) (fun K hK => ?_)
     refine Rgn.gs Try.func83 #[.pointer (some ⟨g, 0, none⟩)] ?_
     with_reducible refine (spec_l1Fill.calls k1 g s0_0 t216 t217 t218 t221 t222 w0 _ ?side1 ?side2 A17.out).mono ?_
     (case side1 => repeat (first | (with_reducible first | exact HI0.out | apply IsS90.alloc | apply IsS90.drewN | apply IsS90.drew | apply IsS90.set_1 | apply IsS90.set_2 | refine IsS90.far ?_ NB0_204.out _ | refine IsS90.far ?_ NB0_214.out _) | exact HI0.out))
     (case side2 => repeat (first | (with_reducible first | exact HB.out | apply below_alloc | apply pw_below_drewN | apply below_drew1 | refine below_set ?_ (IsS90.ge HI0.out) | refine below_set ?_ GE204.out | refine below_set ?_ GE214.out) | exact HB.out))
     rintro e w21 ⟨v219, rfl, ho0, hi, hb, hk⟩
     refine ⟨_, rfl, ?_⟩
     replace HO_215001 := Aside0.mk (Kd.N_mono (Kd.N_told (Kd.N_oldK (Kd.N_mono (ok := fun k_ => (((w.heap.size ≤ k_)) ∧ (some k_ ≠ (u215000 : Value).ownBlock ∧ (k_ ≠ gb204 ∧ (k_ ≠ gb214 ∧ k_ ≠ g))))) (Rgn.nq HO_215001.out) (fun k_ hk_ => (⟨hk_, hk_.2.2.2.2⟩ : _ ∧ k_ ≠ g))) hk) (Kd.R_base ho0)) (fun _ h_ => h_.1))
     replace BK204 := Aside0.mk (Rgn.kb2 hk BK204.out NB204_0.out)
     replace BK214 := Aside0.mk (Rgn.kb2 hk BK214.out NB214_0.out)
     have HO220 := Aside0.mk (Kd.R_lower (Kd.R_new' (Kd.R_newM (M := fun k_ => (w.heap.size ≤ k_)) ho0 (keep_size (w := w) (g := g) (row := none) (Rgn.kbq HK.out)) (fun k_ h_ => h_)) (Kd.R_lt (Rgn.rq HO_215000.out))) (keep_size (w := w) (g := g) (row := none) (Rgn.kbq HK.out)))
     replace HO_215000 := Aside0.mk (Kd.R_mono (Kd.R_told (Kd.R_oldK (IsS90.apart (show IsS90 w0 _ g s0_0 t216 t217 from IsS90.q HI0.out) (Rgn.rq HO_215000.out) (by decide)) hk) (Kd.R_base ho0)) (fun _ h_ => h_.1))
     replace HK := Aside0.mk (KeepBut.trans (Rgn.kbq HK.out) hk (.inl rfl))
     replace HB := Aside0.mk (hb)
     replace HI0 := Aside0.mk (hi)
     (try clear hb)
     skip
     (try clear hk)
     (try clear hi)
     (try clear ho0)
     obtain ⟨Ao22, co22, eo22⟩ := Kd.R_slice HO_215000.out
     (first | subst eo22 | (injection eo22 with f1_ f2_ f3_; have f4_ := f1_.symm; have f5_ := f3_.symm; clear f1_ f2_ f3_; subst f4_; subst f5_))
     obtain ⟨Ao23, co23, eo23⟩ := Kd.R_slice HO220.out
     (first | subst eo23 | (injection eo23 with f1_ f2_ f3_; have f4_ := f1_.symm; have f5_ := f3_.symm; clear f1_ f2_ f3_; subst f4_; subst f5_))
     refine hK.out _ _ ⟨(blk_cell BK214.out 0).trans rfl, (blk_cell BK214.out 1).trans rfl⟩ (fun hHeld => ?_)
     clear hK K
     refine norm_ (a' := ?_) ?_ ?_
     rotate_left
     ·
      show Act.put _ (some 26) _ = _
      simp only [Act.put, List.setIfInBounds_toArray, List.set_cons_zero, List.set_cons_succ, i64_w, i32_w]
      rfl
     refine one_ (i := 5) (N := some 27) #[true, true, true, true, true, true] rfl rfl (by kernel_rfl) (by decide) (fun K hK => ?_)
     refine Rgn.gs Try.func76 #[.slice Ao22 x215000_1.length co22, .int .i64 x5_1, .slice Ao23 t218.length co23] ?_
     with_reducible refine (spec_l1Put.calls k1 (fun k_ => some k_ = (.slice Ao22 x215000_1.length co22 : Value).ownBlock) (.slice Ao22 x215000_1.length co22) x215000_1 x5_1 _ _ t218 t223 w0 _ ?side1 ?side2 ?side3 ?side4 A18.out).mono ?_
     (case side1 => repeat (first | (with_reducible first | exact HB.out | apply below_alloc | apply pw_below_drewN | apply below_drew1 | refine below_set ?_ (IsS90.ge HI0.out) | refine below_set ?_ GE204.out | refine below_set ?_ GE214.out) | exact HB.out))
     (case side2 => exact Kd.R_lower (Kd.R_tight rfl HO_215000.out) HL.out)
     (case side3 => exact Kd.C_kept_own (HO220.out) (fun k_ hk_ hs_ => (hk_.2) hs_))
     (case side4 => exact (Kd.R_reads' HO220.out).2.1)
     rintro e w24 ⟨rfl, hy0, hb, hkp⟩
     refine ⟨_, rfl, ?_⟩
     have n0_ := Aside0.mk (Kd.R_reok rfl (Kd.R_raise (d := (Kd.int .u8)) (b := w0.heap.size) (b' := w.heap.size) (fun _ _ _ _ h_ => h_) hy0 (fun k_ e_ => Or.elim (hy0.1 k_ e_) (fun hs_ => (fun e_ => Kd.R_base HO_215000.out k_ e_.symm) hs_) (fun hn_ => Nat.le_trans (keep_size (w := w) (g := g) (row := none) (Rgn.kbq HK.out)) hn_))) (fun k_ e_ => HO_215000.out.1 k_ e_))
     have n1_ := Aside0.mk (Kd.N_mono (ok' := fun k_ => (w.heap.size ≤ k_) ∧ some k_ ≠ (.slice Ao22 x215000_1.length co22 : Value).ownBlock ∧ some k_ ≠ (.slice Ao23 t218.length co23 : Value).ownBlock ∧ k_ ≠ gb204 ∧ k_ ≠ gb214 ∧ k_ ≠ g) (Kd.N_keptB (HO_215001.out) hkp (fun k_ hk_ hs_ => (hk_.1.2.1) hs_)) (fun k_ hk_ => ⟨hk_.1.1.1, hk_.1.1.2.1, hk_.1.2, hk_.1.1.2.2.1, hk_.1.1.2.2.2.1, hk_.1.1.2.2.2.2⟩))
     have n2_ := Aside0.mk (blk_kept (Rgn.kb BK204.out) hkp (fun hs_ => (fun e_ => (Kd.R_ne HO_215000.out BK204.out (by decide)) e_) hs_))
     have n3_ := Aside0.mk (blk_kept (Rgn.kb BK214.out) hkp (fun hs_ => (fun e_ => (Kd.R_ne HO_215000.out BK214.out (by decide)) e_) hs_))
     have n4_ := Aside0.mk (IsS90.kept (IsS90.q HI0.out) hkp (fun hs_ => (fun e_ => (IsS90.own_ne HI0.out HO_215000.out (by decide)) e_) hs_))
     have n5_ := Aside0.mk (Kd.R_mono (ok' := fun k_ => (w.heap.size ≤ k_) ∧ some k_ ≠ (.slice Ao22 x215000_1.length co22 : Value).ownBlock) (Kd.R_keptB (HO220.out) hkp (fun k_ hk_ hs_ => (hk_.2) hs_)) (fun k_ hk_ => ⟨hk_.1.1.1, hk_.1.2⟩))
     have n6_ := Aside0.mk (Kept.keepG (Rgn.kbq HK.out) hkp (fun k_ hs_ => (fun e_ => .inr (Kd.R_base HO_215000.out k_ e_.symm)) hs_))
     have n7_ := Aside0.mk (hb)
     clear HO_215000
     clear HO_215001
     clear BK204
     clear BK214
     clear HI0
     clear HO220
     clear HK
     clear HB
     have HO_215000 := n0_
     have HO_215001 := n1_
     have BK204 := n2_
     have BK214 := n3_
     have HI0 := n4_
     have HO220 := n5_
     have HK := n6_
     have HB := n7_
     clear n0_ n1_ n2_ n3_ n4_ n5_ n6_ n7_
     (try clear hb)
     (try clear hkp)
     (try clear hy0)
     refine hK.out _ _ ⟨(blk_cell BK214.out 0).trans rfl, (blk_cell BK214.out 1).trans rfl⟩ (fun hHeld => ?_)
     clear hK K
     refine norm_ (a' := ?_) ?_ ?_
     rotate_left
     ·
      show Act.put _ (some 27) _ = _
      simp only [Act.put, List.setIfInBounds_toArray, List.set_cons_zero, List.set_cons_succ, i64_w, i32_w]
      rfl
     refine done_ (by kernel_rfl) ?_
     try go_wp2
     go_roundg k1
     case measure => have := HK1.out; omega
     case rel => exact ⟨(wrap64 (x5_1 + 1)), (t221), (t222), (t223), (.slice Ao22 x215000_1.length co22), (by first | rfl | (simp; done) | (simp [*]; done)), H', ⟨by have := HK1.out; omega⟩, ⟨by (with_reducible repeat (first | apply Kd.R_alloc | apply Kd.R_drewN | apply Kd.R_drew)); exact Kd.R_mono HO_215000.out (fun _ hk => hk.1)⟩, ⟨by (with_reducible repeat (first | apply Kd.N_alloc | apply Kd.N_drewN | apply Kd.N_drew)); exact Kd.N_mono HO_215001.out (fun _ hk => ⟨hk.1, ⟨hk.2.1, ⟨hk.2.2.2.1, ⟨hk.2.2.2.2.1, hk.2.2.2.2.2⟩⟩⟩⟩)⟩, ⟨Rgn.kb BK204.out⟩, ⟨Rgn.kb BK214.out⟩, ⟨IsS90.q HI0.out⟩, ⟨Rgn.kbq HK.out⟩, ⟨Rgn.bs HB.out (IsS90.ge HI0.out)⟩⟩
   ·
    rw [if_neg c13] at H
    have c13b0 : decide (x5_1 < (wrap64 (1 + t205))) = false := decide_eq_false c13
    clear c13
    replace H := Option.bind_eq_some_iff.mp H
    obtain ⟨⟨t224, t225, t226⟩, A250, H⟩ := H
    replace H : ((spec_l1Next.f s0_0 t225 t226 (wrap64 (4 + t226))).bind fun bt227 => (if t224 = 0 then ((spec_l1Next.f s0_0 bt227.2.1 bt227.2.2 2).bind fun bt230 => (spec_l1DrawDisk.j1 k1 (wrap64 (1 + t205)) t224 (wrap64 (600 + bt230.1)) s0_0 bt230.2.1 bt230.2.2 x215000_1 t211)) else (spec_l1DrawDisk.j1 k1 (wrap64 (1 + t205)) t224 bt227.1 s0_0 bt227.2.1 bt227.2.2 x215000_1 t211))) = some (r1, r2, r3, r4) := H
    have A25 := Aside0.mk A250
    clear A250
    replace H := Option.bind_eq_some_iff.mp H
    obtain ⟨⟨t227, t228, t229⟩, A260, H⟩ := H
    replace H : (if t224 = 0 then ((spec_l1Next.f s0_0 t228 t229 2).bind fun bt230 => (spec_l1DrawDisk.j1 k1 (wrap64 (1 + t205)) t224 (wrap64 (600 + bt230.1)) s0_0 bt230.2.1 bt230.2.2 x215000_1 t211)) else (spec_l1DrawDisk.j1 k1 (wrap64 (1 + t205)) t224 t227 s0_0 t228 t229 x215000_1 t211)) = some (r1, r2, r3, r4) := H
    have A26 := Aside0.mk A260
    clear A260
    have HC27 := Aside0.mk H
    clear H
    go_upto_if 38 with (first | ((with_reducible refine gate_callee (f := 82) rfl ?_); refine Rgn.gl (some 29) Try.func82 #[.pointer (some ⟨g, 0, none⟩), .int .i64 30] ?_; (with_reducible refine (spec_l1Next.calls g s0_0 x1001_1 x1002_1 30 t224 t225 t226 w0 _ ?side1 ?side2 A25.out).mono ?_); (case side1 => repeat (first | (with_reducible first | exact HI0.out | apply IsS90.alloc | apply IsS90.drewN | apply IsS90.drew | apply IsS90.set_1 | apply IsS90.set_2 | refine IsS90.far ?_ NB0_204.out _ | refine IsS90.far ?_ NB0_214.out _) | exact HI0.out)); (case side2 => repeat (first | (with_reducible first | exact HB.out | apply below_alloc | apply pw_below_drewN | apply below_drew1 | refine below_set ?_ (IsS90.ge HI0.out) | refine below_set ?_ GE204.out | refine below_set ?_ GE214.out) | exact HB.out)); rintro e w28 ⟨rfl, hi, hb, hk⟩; refine ⟨_, rfl, ?_⟩; replace HO_215000 := Aside0.mk (Kd.R_mono (Kd.R_keep (IsS90.apart (show IsS90 w0 _ g s0_0 x1001_1 x1002_1 from IsS90.q HI0.out) (Rgn.rq HO_215000.out) (by decide)) hk (fun _ h => h.2)) (fun _ h => h.1)); replace HO_215001 := Aside0.mk (Kd.N_mono (Kd.N_keep (Kd.N_mono (ok := fun k_ => (((w.heap.size ≤ k_)) ∧ (some k_ ≠ (u215000 : Value).ownBlock ∧ (k_ ≠ gb204 ∧ (k_ ≠ gb214 ∧ k_ ≠ g))))) (Rgn.nq HO_215001.out) (fun k_ hk_ => (⟨hk_, hk_.2.2.2.2⟩ : _ ∧ k_ ≠ g))) hk (fun _ h => h.2)) (fun _ h => h.1)); replace BK204 := Aside0.mk (Rgn.kb2 hk BK204.out NB204_0.out); replace BK214 := Aside0.mk (Rgn.kb2 hk BK214.out NB214_0.out); replace HK := Aside0.mk (KeepBut.trans (Rgn.kbq HK.out) hk (.inl rfl)); replace HB := Aside0.mk (hb); replace HI0 := Aside0.mk (hi); (try clear hb); (try clear hk); (try clear hi); obtain ⟨ASz29_0, cSz29_0, HGz29, hgz29, HSz29_0⟩ := HI0.out; have hcz29_0 := cellS90_0 HGz29; have hcz29_1 := cellS90_1 HGz29; have hcz29_2 := cellS90_2 HGz29; have hfz29_1 := blk_frozen HGz29 1; have hfz29_2 := blk_frozen HGz29 2; clear HGz29 hgz29) | ((with_reducible refine gate_callee (f := 82) rfl ?_); refine Rgn.gl (some 36) Try.func82 #[.pointer (some ⟨g, 0, none⟩), .int .i64 (wrap64 (4 + t226))] ?_; (with_reducible refine (spec_l1Next.calls g s0_0 t225 t226 (wrap64 (4 + t226)) t227 t228 t229 w0 _ ?side1 ?side2 A26.out).mono ?_); (case side1 => repeat (first | (with_reducible first | exact HI0.out | apply IsS90.alloc | apply IsS90.drewN | apply IsS90.drew | apply IsS90.set_1 | apply IsS90.set_2 | refine IsS90.far ?_ NB0_204.out _ | refine IsS90.far ?_ NB0_214.out _) | exact HI0.out)); (case side2 => repeat (first | (with_reducible first | exact HB.out | apply below_alloc | apply pw_below_drewN | apply below_drew1 | refine below_set ?_ (IsS90.ge HI0.out) | refine below_set ?_ GE204.out | refine below_set ?_ GE214.out) | exact HB.out)); rintro e w30 ⟨rfl, hi, hb, hk⟩; refine ⟨_, rfl, ?_⟩; replace HO_215000 := Aside0.mk (Kd.R_mono (Kd.R_keep (IsS90.apart (show IsS90 w0 _ g s0_0 t225 t226 from IsS90.q HI0.out) (Rgn.rq HO_215000.out) (by decide)) hk (fun _ h => h.2)) (fun _ h => h.1)); replace HO_215001 := Aside0.mk (Kd.N_mono (Kd.N_keep (Kd.N_mono (ok := fun k_ => (((w.heap.size ≤ k_)) ∧ (some k_ ≠ (u215000 : Value).ownBlock ∧ (k_ ≠ gb204 ∧ (k_ ≠ gb214 ∧ k_ ≠ g))))) (Rgn.nq HO_215001.out) (fun k_ hk_ => (⟨hk_, hk_.2.2.2.2⟩ : _ ∧ k_ ≠ g))) hk (fun _ h => h.2)) (fun _ h => h.1)); replace BK204 := Aside0.mk (Rgn.kb2 hk BK204.out NB204_0.out); replace BK214 := Aside0.mk (Rgn.kb2 hk BK214.out NB214_0.out); replace HK := Aside0.mk (KeepBut.trans (Rgn.kbq HK.out) hk (.inl rfl)); replace HB := Aside0.mk (hb); replace HI0 := Aside0.mk (hi); (try clear hb); (try clear hk); (try clear hi)))
    (try simp only [Act.put, List.setIfInBounds_toArray, List.set_cons_zero, List.set_cons_succ])
    go_cut [7] (fun v7 wc => ∃ (kq : Nat) (x7_26 : Int) (x1001_26 : Int) (x1002_26 : Int), v7 = .int .i64 x7_26 ∧ Aside0 (spec_l1DrawDisk.j1 kq (wrap64 (1 + t205)) t224 x7_26 s0_0 x1001_26 x1002_26 x215000_1 t211 = some (r1, r2, r3, r4)) ∧ Aside0 (kq ≤ k1) ∧ Aside0 (Kd.R (Kd.int .u8) 5 wc w.heap.size (fun k_ => (w.heap.size ≤ k_)) u215000 x215000_1) ∧ Aside0 (Kd.N k62 62 wc w.heap.size (fun k_ => (w.heap.size ≤ k_) ∧ some k_ ≠ (u215000 : Value).ownBlock ∧ k_ ≠ gb204 ∧ k_ ≠ gb214 ∧ k_ ≠ g) (.slice Ao12 t211.length co12) t211) ∧ Aside0 (wc.heap[gb204]? = some (.cells #[(.slice none 0 0), (.slice none 0 0)] 29 (0, 0))) ∧ Aside0 (wc.heap[gb214]? = some (.cells #[u215000, (.slice Ao12 t211.length co12)] 29 (0, 0))) ∧ Aside0 (IsS90 w0 wc g s0_0 x1001_26 x1002_26) ∧ Aside0 (KeepBut w wc g none) ∧ Aside0 (Below w0.heap.size w0 wc))
    case first =>
     have H := HC27.out
     clear HC27
     by_cases c31 : t224 = 0
     ·
      rw [if_pos c31] at H
      have c31b0 : (t224 == 0) = true := beq_iff_eq.mpr c31
      have c31b1 : (t224 != 0) = false := bne_eq_false_iff_eq.mpr c31
      clear c31
      (first | rw [c31b0] | (simp only [i64_w, i32_w]; rw [c31b0]) | skip)
      replace H := Option.bind_eq_some_iff.mp H
      obtain ⟨⟨t230, t231, t232⟩, A320, H⟩ := H
      replace H : (spec_l1DrawDisk.j1 k1 (wrap64 (1 + t205)) t224 (wrap64 (600 + t230)) s0_0 t231 t232 x215000_1 t211) = some (r1, r2, r3, r4) := H
      have A32 := Aside0.mk A320
      clear A320
      have H' := Aside0.mk H
      clear H
      go_wp2_with (first | ((with_reducible refine gate_callee (f := 82) rfl ?_); refine Rgn.gl (some 40) Try.func82 #[.pointer (some ⟨g, 0, none⟩), .int .i64 2] ?_; (with_reducible refine (spec_l1Next.calls g s0_0 t228 t229 2 t230 t231 t232 w0 _ ?side1 ?side2 A32.out).mono ?_); (case side1 => repeat (first | (with_reducible first | exact HI0.out | apply IsS90.alloc | apply IsS90.drewN | apply IsS90.drew | apply IsS90.set_1 | apply IsS90.set_2 | refine IsS90.far ?_ NB0_204.out _ | refine IsS90.far ?_ NB0_214.out _) | exact HI0.out)); (case side2 => repeat (first | (with_reducible first | exact HB.out | apply below_alloc | apply pw_below_drewN | apply below_drew1 | refine below_set ?_ (IsS90.ge HI0.out) | refine below_set ?_ GE204.out | refine below_set ?_ GE214.out) | exact HB.out)); rintro e w33 ⟨rfl, hi, hb, hk⟩; refine ⟨_, rfl, ?_⟩; replace HO_215000 := Aside0.mk (Kd.R_mono (Kd.R_keep (IsS90.apart (show IsS90 w0 _ g s0_0 t228 t229 from IsS90.q HI0.out) (Rgn.rq HO_215000.out) (by decide)) hk (fun _ h => h.2)) (fun _ h => h.1)); replace HO_215001 := Aside0.mk (Kd.N_mono (Kd.N_keep (Kd.N_mono (ok := fun k_ => (((w.heap.size ≤ k_)) ∧ (some k_ ≠ (u215000 : Value).ownBlock ∧ (k_ ≠ gb204 ∧ (k_ ≠ gb214 ∧ k_ ≠ g))))) (Rgn.nq HO_215001.out) (fun k_ hk_ => (⟨hk_, hk_.2.2.2.2⟩ : _ ∧ k_ ≠ g))) hk (fun _ h => h.2)) (fun _ h => h.1)); replace BK204 := Aside0.mk (Rgn.kb2 hk BK204.out NB204_0.out); replace BK214 := Aside0.mk (Rgn.kb2 hk BK214.out NB214_0.out); replace HK := Aside0.mk (KeepBut.trans (Rgn.kbq HK.out) hk (.inl rfl)); replace HB := Aside0.mk (hb); replace HI0 := Aside0.mk (hi); (try clear hb); (try clear hk); (try clear hi)))
      go_meet
      case rel => exact ⟨_, (wrap64 (600 + t230)), (t231), (t232), (by first | rfl | (simp; done) | (simp [*]; done)), H', ⟨by have := HK1.out; first | omega | exact Nat.le_refl _⟩, ⟨Rgn.rq HO_215000.out⟩, ⟨by (with_reducible repeat (first | apply Kd.N_alloc | apply Kd.N_drewN | apply Kd.N_drew)); exact HO_215001.out⟩, ⟨Rgn.kb BK204.out⟩, ⟨Rgn.kb BK214.out⟩, ⟨IsS90.q HI0.out⟩, ⟨Rgn.kbq HK.out⟩, ⟨Rgn.bs HB.out (IsS90.ge HI0.out)⟩⟩
     ·
      rw [if_neg c31] at H
      have c31b0 : (t224 == 0) = false := beq_eq_false_iff_ne.mpr c31
      have c31b1 : (t224 != 0) = true := bne_iff_ne.mpr c31
      (first | rw [c31b0] | (simp only [i64_w, i32_w]; rw [c31b0]) | skip)
      have H' := Aside0.mk H
      clear H
      go_wp2
      go_meet
      case rel => exact ⟨_, (t227), (t228), (t229), (by first | rfl | (simp; done) | (simp [*]; done)), H', ⟨by have := HK1.out; first | omega | exact Nat.le_refl _⟩, ⟨Rgn.rq HO_215000.out⟩, ⟨by (with_reducible repeat (first | apply Kd.N_alloc | apply Kd.N_drewN | apply Kd.N_drew)); exact HO_215001.out⟩, ⟨Rgn.kb BK204.out⟩, ⟨Rgn.kb BK214.out⟩, ⟨IsS90.q HI0.out⟩, ⟨Rgn.kbq HK.out⟩, ⟨Rgn.bs HB.out (IsS90.ge HI0.out)⟩⟩
    case rest =>
     clear HC27
     try clear c1
     try clear c2
     try clear p2
     try clear c3
     try clear p6
     try clear c7
     try clear c8
     try clear c9
     try clear c10
     try clear c13
     try clear c13b0
     try clear c15
     try clear c20
     try clear c31
     try clear c31b0
     try clear c31b1
     try clear hcz11_0 hcz11_1
     try clear hcz29_0 hcz29_1 hcz29_2
     try clear hfz11_0 hfz11_1
     try clear hfz29_1 hfz29_2
     try clear p2
     try clear p6
     obtain ⟨kq, x7_26, x1001_26, x1002_26, rfl, HA, HJ26, HO_215000, HO_215001, BK204, BK214, HI0, HK, HB⟩ := hcut
     cases kq with
     | zero => exact absurd HA.out (by simp [spec_l1DrawDisk.j1])
     | succ kj26 =>
      have H := HA.out
      clear HA
      simp only [spec_l1DrawDisk.j1] at H
      have H' := Aside0.mk H
      clear H
      go_wp2
      go_loopg [8] kj26 (fun kq v8 w' => ∃ (x8_3 : Int) (x1001_3 : Int) (x1002_3 : Int) (x215001_3 : List (S62)) (u215001 : Value), v8 = .int .i64 x8_3 ∧ Aside0 (spec_l1DrawDisk.l1 kq (wrap64 (1 + t205)) t224 x7_26 x8_3 s0_0 x1001_3 x1002_3 x215000_1 x215001_3 = some (r1, r2, r3, r4)) ∧ Aside0 (kq ≤ kj26) ∧ Aside0 (Kd.R (Kd.int .u8) 5 w' w.heap.size (fun k_ => (w.heap.size ≤ k_)) u215000 x215000_1) ∧ Aside0 (Kd.N k62 62 w' w.heap.size (fun k_ => (w.heap.size ≤ k_) ∧ some k_ ≠ (u215000 : Value).ownBlock ∧ k_ ≠ gb204 ∧ k_ ≠ gb214 ∧ k_ ≠ g) u215001 x215001_3) ∧ Aside0 (w'.heap[gb204]? = some (.cells #[(.slice none 0 0), (.slice none 0 0)] 29 (0, 0))) ∧ Aside0 (w'.heap[gb214]? = some (.cells #[u215000, u215001] 29 (0, 0))) ∧ Aside0 (IsS90 w0 w' g s0_0 x1001_3 x1002_3) ∧ Aside0 (KeepBut w w' g none) ∧ Aside0 (Below w0.heap.size w0 w'))
      case atStart => exact ⟨(0), (x1001_26), (x1002_26), (t211), (.slice Ao12 t211.length co12), (by first | rfl | (simp; done) | (simp [*]; done)), H', ⟨Nat.le_refl _⟩, ⟨Rgn.rq HO_215000.out⟩, ⟨by (with_reducible repeat (first | apply Kd.N_alloc | apply Kd.N_drewN | apply Kd.N_drew)); exact HO_215001.out⟩, ⟨Rgn.kb BK204.out⟩, ⟨Rgn.kb BK214.out⟩, ⟨IsS90.q HI0.out⟩, ⟨Rgn.kbq HK.out⟩, ⟨Rgn.bs HB.out (IsS90.ge HI0.out)⟩⟩
      case round =>
       clear H'
       try clear c1
       try clear c2
       try clear p2
       try clear c3
       try clear p6
       try clear c7
       try clear c8
       try clear c9
       try clear c10
       try clear c13
       try clear c13b0
       try clear c15
       try clear c20
       try clear c31
       try clear c31b0
       try clear c31b1
       try clear hcz11_0 hcz11_1
       try clear hcz29_0 hcz29_1 hcz29_2
       try clear hfz11_0 hfz11_1
       try clear hfz29_1 hfz29_2
       try clear p2
       try clear p6
       obtain ⟨x8_3, x1001_3, x1002_3, x215001_3, u215001, rfl, HA, HK3, HO_215000, HO_215001, BK204, BK214, HI0, HK, HB⟩ := hrel
       cases gk with
       | zero => exact absurd HA.out (by simp [spec_l1DrawDisk.l1])
       | succ k3 =>
        have H := HA.out
        clear HA
        simp only [spec_l1DrawDisk.l1] at H
        by_cases c34 : x8_3 < x7_26
        ·
         rw [if_pos c34] at H
         have c34b0 : decide (x8_3 < x7_26) = true := decide_eq_true c34
         clear c34
         replace H := Option.bind_eq_some_iff.mp H
         obtain ⟨⟨t233, t234, t235⟩, A350, H⟩ := H
         replace H : ((spec_l1Fill.f k3 s0_0 t234 t235).bind fun bt236 => (if x215001_3.length < 4398046511104 then (spec_l1DrawDisk.l1 k3 (wrap64 (1 + t205)) t224 x7_26 (wrap64 (x8_3 + 1)) s0_0 bt236.2.1 bt236.2.2 x215000_1 (x215001_3 ++ [(⟨t233, bt236.1⟩ : S62)])) else (none))) = some (r1, r2, r3, r4) := H
         have A35 := Aside0.mk A350
         clear A350
         replace H := Option.bind_eq_some_iff.mp H
         obtain ⟨⟨t236, t239, t240⟩, A360, H⟩ := H
         replace H : (if x215001_3.length < 4398046511104 then (spec_l1DrawDisk.l1 k3 (wrap64 (1 + t205)) t224 x7_26 (wrap64 (x8_3 + 1)) s0_0 t239 t240 x215000_1 (x215001_3 ++ [(⟨t233, t236⟩ : S62)])) else (none)) = some (r1, r2, r3, r4) := H
         have A36 := Aside0.mk A360
         clear A360
         by_cases c37 : x215001_3.length < 4398046511104
         ·
          rw [if_pos c37] at H
          have LMc37 := Aside0.mk c37
          clear c37
          obtain ⟨y241, hy241⟩ : ∃ y_ : List (S62), y_ = (x215001_3 ++ [(⟨t233, t236⟩ : S62)]) := ⟨_, rfl⟩
          replace H : (spec_l1DrawDisk.l1 k3 (wrap64 (1 + t205)) t224 x7_26 (wrap64 (x8_3 + 1)) s0_0 t239 t240 x215000_1 y241) = some (r1, r2, r3, r4) := by first | (rw [hy241]; with_reducible exact H) | (have H2_ := (Option.bind_some _ _).symm.trans H; rw [hy241]; with_reducible exact H2_) | (have H2_ := (Option.bind_some _ _).symm.trans H; with_reducible exact H2_) | with_reducible exact H | (rw [hy241]; exact H) | exact H
          have Ny241 := Aside0.mk hy241
          clear hy241
          have H' := Aside0.mk H
          clear H
          try go_wp2
          replace HO_215000 := Aside0.mk (Kd.R_drew HO_215000.out)
          replace HO_215001 := Aside0.mk (Kd.N_drew HO_215001.out)
          replace BK204 := Aside0.mk (blk_drew BK204.out)
          replace BK214 := Aside0.mk (blk_drew BK214.out)
          replace HI0 := Aside0.mk (IsS90.drew HI0.out)
          replace HK := Aside0.mk (keep_drew HK.out)
          replace HB := Aside0.mk (below_drew1 HB.out)
          refine start_ (n := 12) (S := fun w' => w'.cell? ⟨gb214, 0, none⟩ = some (u215000) ∧ w'.cell? ⟨gb214, 1, none⟩ = some (u215001)) (ds := [11]) #[false, false, false, false, false, false, false, false, false, false, false, false] (by kernel_rfl) rfl rfl ⟨(blk_cell BK214.out 0).trans rfl, (blk_cell BK214.out 1).trans rfl⟩ (fun hHeld => ?_); refine with_tabW spec_l1DrawDisk.tab15 spec_l1DrawDisk.bits15 (fun HT_ HW_ => ?_)
          generalize wr.drew = w38 at HO_215000 HO_215001 BK204 BK214 HI0 HK HB hHeld ⊢
          refine Rgn.pu HT_.out 0 47 ?_
          refine Rgn.pu HT_.out 2 49 ?_
          refine Rgn.pu HT_.out 3 50 ?_
          refine Rgn.pu HT_.out 5 52 ?_
          refine Rgn.tk HT_.out HW_.out 1 48 hHeld ?_
          refine one_ (i := 4) (N := some 51) #[true, true, true, true, true, true, false, false, false, false, false, false] rfl rfl (one_of HT_.out (by kernel_rfl)) (by decide) (fun K hK => ?_)
          refine Rgn.gs Try.func82 #[.pointer (some ⟨g, 0, none⟩), .int .i64 (wrap64 (1 + t205))] ?_
          with_reducible refine (spec_l1Next.calls g s0_0 x1001_3 x1002_3 (wrap64 (1 + t205)) t233 t234 t235 w0 _ ?side1 ?side2 A35.out).mono ?_
          (case side1 => repeat (first | (with_reducible first | exact HI0.out | apply IsS90.alloc | apply IsS90.drewN | apply IsS90.drew | apply IsS90.set_1 | apply IsS90.set_2 | refine IsS90.far ?_ NB0_204.out _ | refine IsS90.far ?_ NB0_214.out _) | exact HI0.out))
          (case side2 => repeat (first | (with_reducible first | exact HB.out | apply below_alloc | apply pw_below_drewN | apply below_drew1 | refine below_set ?_ (IsS90.ge HI0.out) | refine below_set ?_ GE204.out | refine below_set ?_ GE214.out) | exact HB.out))
          rintro e w39 ⟨rfl, hi, hb, hk⟩
          refine ⟨_, rfl, ?_⟩
          replace HO_215000 := Aside0.mk (Kd.R_mono (Kd.R_keep (IsS90.apart (show IsS90 w0 _ g s0_0 x1001_3 x1002_3 from IsS90.q HI0.out) (Rgn.rq HO_215000.out) (by decide)) hk (fun _ h => h.2)) (fun _ h => h.1))
          replace HO_215001 := Aside0.mk (Kd.N_mono (Kd.N_keep (Kd.N_mono (ok := fun k_ => (((w.heap.size ≤ k_)) ∧ (some k_ ≠ (u215000 : Value).ownBlock ∧ (k_ ≠ gb204 ∧ (k_ ≠ gb214 ∧ k_ ≠ g))))) (Rgn.nq HO_215001.out) (fun k_ hk_ => (⟨hk_, hk_.2.2.2.2⟩ : _ ∧ k_ ≠ g))) hk (fun _ h => h.2)) (fun _ h => h.1))
          replace BK204 := Aside0.mk (Rgn.kb2 hk BK204.out NB204_0.out)
          replace BK214 := Aside0.mk (Rgn.kb2 hk BK214.out NB214_0.out)
          replace HK := Aside0.mk (KeepBut.trans (Rgn.kbq HK.out) hk (.inl rfl))
          replace HB := Aside0.mk (hb)
          replace HI0 := Aside0.mk (hi)
          (try clear hb)
          skip
          (try clear hk)
          (try clear hi)
          refine hK.out _ _ ⟨(blk_cell BK214.out 0).trans rfl, (blk_cell BK214.out 1).trans rfl⟩ (fun hHeld => ?_)
          clear hK K
          refine norm_ (a' := ?_) ?_ ?_
          rotate_left
          ·
           show Act.put _ (some 51) _ = _
           simp only [Act.put, List.setIfInBounds_toArray, List.set_cons_zero, List.set_cons_succ, i64_w, i32_w]
           rfl
          refine one_ (i := 6) (N := some 53) #[true, true, true, true, true, true, true, false, false, false, false, false] rfl rfl (one_of HT_.out (by kernel_rfl)) (by decide) (fun K hK => ?_)
          refine Rgn.gs Try.func83 #[.pointer (some ⟨g, 0, none⟩)] ?_
          with_reducible refine (spec_l1Fill.calls k3 g s0_0 t234 t235 t236 t239 t240 w0 _ ?side1 ?side2 A36.out).mono ?_
          (case side1 => repeat (first | (with_reducible first | exact HI0.out | apply IsS90.alloc | apply IsS90.drewN | apply IsS90.drew | apply IsS90.set_1 | apply IsS90.set_2 | refine IsS90.far ?_ NB0_204.out _ | refine IsS90.far ?_ NB0_214.out _) | exact HI0.out))
          (case side2 => repeat (first | (with_reducible first | exact HB.out | apply below_alloc | apply pw_below_drewN | apply below_drew1 | refine below_set ?_ (IsS90.ge HI0.out) | refine below_set ?_ GE204.out | refine below_set ?_ GE214.out) | exact HB.out))
          rintro e w40 ⟨v237, rfl, ho0, hi, hb, hk⟩
          refine ⟨_, rfl, ?_⟩
          replace HO_215001 := Aside0.mk (Kd.N_mono (Kd.N_told (Kd.N_oldK (Kd.N_mono (ok := fun k_ => (((w.heap.size ≤ k_)) ∧ (some k_ ≠ (u215000 : Value).ownBlock ∧ (k_ ≠ gb204 ∧ (k_ ≠ gb214 ∧ k_ ≠ g))))) (Rgn.nq HO_215001.out) (fun k_ hk_ => (⟨hk_, hk_.2.2.2.2⟩ : _ ∧ k_ ≠ g))) hk) (Kd.R_base ho0)) (fun _ h_ => h_.1))
          replace BK204 := Aside0.mk (Rgn.kb2 hk BK204.out NB204_0.out)
          replace BK214 := Aside0.mk (Rgn.kb2 hk BK214.out NB214_0.out)
          have HO238 := Aside0.mk (Kd.R_lower (Kd.R_new' (Kd.R_newM (M := fun k_ => (w.heap.size ≤ k_)) ho0 (keep_size (w := w) (g := g) (row := none) (Rgn.kbq HK.out)) (fun k_ h_ => h_)) (Kd.R_lt (Rgn.rq HO_215000.out))) (keep_size (w := w) (g := g) (row := none) (Rgn.kbq HK.out)))
          replace HO_215000 := Aside0.mk (Kd.R_mono (Kd.R_told (Kd.R_oldK (IsS90.apart (show IsS90 w0 _ g s0_0 t234 t235 from IsS90.q HI0.out) (Rgn.rq HO_215000.out) (by decide)) hk) (Kd.R_base ho0)) (fun _ h_ => h_.1))
          replace HK := Aside0.mk (KeepBut.trans (Rgn.kbq HK.out) hk (.inl rfl))
          replace HB := Aside0.mk (hb)
          replace HI0 := Aside0.mk (hi)
          (try clear hb)
          skip
          (try clear hk)
          (try clear hi)
          (try clear ho0)
          obtain ⟨Ao41, co41, eo41⟩ := Kd.R_slice HO238.out
          (first | subst eo41 | (injection eo41 with f1_ f2_ f3_; have f4_ := f1_.symm; have f5_ := f3_.symm; clear f1_ f2_ f3_; subst f4_; subst f5_))
          refine hK.out _ _ ⟨(blk_cell BK214.out 0).trans rfl, (blk_cell BK214.out 1).trans rfl⟩ (fun hHeld => ?_)
          clear hK K
          refine norm_ (a' := ?_) ?_ ?_
          rotate_left
          ·
           show Act.put _ (some 53) _ = _
           simp only [Act.put, List.setIfInBounds_toArray, List.set_cons_zero, List.set_cons_succ, i64_w, i32_w]
           rfl
          refine Rgn.pu HT_.out 7 54 ?_
          refine one_ (i := 8) (N := some 55) #[true, true, true, true, true, true, true, true, true, false, false, false] rfl rfl (one_of HT_.out (by kernel_rfl)) (by decide) (fun K hK => ?_)
          refine value_ (w1 := ?_) (v := ?_) (by rfl) rfl ?_ ?_
          rotate_left 2
          ·
           go_simp
           constructor
           ·
            rfl
           ·
            rfl
          refine hK.out _ _ ⟨(blk_cell (blk_alloc BK214.out _) 0).trans rfl, (blk_cell (blk_alloc BK214.out _) 1).trans rfl⟩ (fun hHeld => ?_)
          clear hK K
          refine norm_ (a' := ?_) ?_ ?_
          rotate_left
          ·
           show Act.put _ (some 55) _ = _
           simp only [Act.put, List.setIfInBounds_toArray, List.set_cons_zero, List.set_cons_succ, i64_w, i32_w]
           rfl
          refine one_ (i := 9) (N := some 56) #[true, true, true, true, true, true, true, true, true, true, false, false] rfl rfl (one_of HT_.out (by kernel_rfl)) (by decide) (fun K hK => ?_)
          refine Kd.N_append_step k62 w.heap.size (by rfl) (.tmp 48) (.tmp 55) 27 62 (.agg #[(.int .i64 0), (.slice none 0 0)]) 32 rfl Try.underlying27 info62 rfl (by decide) (by omega) u215001 x215001_3 (⟨t233, t236⟩ : S62) [.int .i64 t233, .slice Ao41 t236.length co41] (fun k_ => (w.heap.size ≤ k_) ∧ some k_ ≠ (u215000 : Value).ownBlock ∧ k_ ≠ gb204 ∧ k_ ≠ gb214 ∧ k_ ≠ g) (fun k_ => ((fun k_ => (w.heap.size ≤ k_) ∧ some k_ ≠ (u215000 : Value).ownBlock ∧ k_ ≠ gb204 ∧ k_ ≠ gb214 ∧ k_ ≠ g)) k_ ∧ some k_ ≠ (u215001 : Value).ownBlock) rfl rfl ?aP (fun _ hk => hk) ?aF ?aO (Below.refl _ _) ?aS ?aL ?_
          (case aP => exact (k62_mkF _ _ (⟨t233, t236⟩ : S62) (Kd.R_reads' (Kd.R_mono (ok' := (fun k_ => ((fun k_ => (w.heap.size ≤ k_) ∧ some k_ ≠ (u215000 : Value).ownBlock ∧ k_ ≠ gb204 ∧ k_ ≠ gb214 ∧ k_ ≠ g)) k_ ∧ some k_ ≠ (u215001 : Value).ownBlock)) (IsS90.apart HI0.out (Kd.R_types (Kd.R_types (Kd.R_apart' (HO238.out) (Kd.N_typed HO_215001.out) (by decide)) BK204.out (by decide)) BK214.out (by decide)) (by decide)) (fun k_ hk => ⟨⟨hk.1.1.1.1.1.1, ⟨hk.1.1.1.1.2, ⟨hk.1.1.2, ⟨hk.1.2, hk.2⟩⟩⟩⟩, hk.1.1.1.2⟩))).2.1 (Kd.R_F (Kd.R_mono (ok' := (fun k_ => ((fun k_ => (w.heap.size ≤ k_) ∧ some k_ ≠ (u215000 : Value).ownBlock ∧ k_ ≠ gb204 ∧ k_ ≠ gb214 ∧ k_ ≠ g)) k_ ∧ some k_ ≠ (u215001 : Value).ownBlock)) (IsS90.apart HI0.out (Kd.R_types (Kd.R_types (Kd.R_apart' (HO238.out) (Kd.N_typed HO_215001.out) (by decide)) BK204.out (by decide)) BK214.out (by decide)) (by decide)) (fun k_ hk => ⟨⟨hk.1.1.1.1.1.1, ⟨hk.1.1.1.1.2, ⟨hk.1.1.2, ⟨hk.1.2, hk.2⟩⟩⟩⟩, hk.1.1.1.2⟩)))))
          (case aF => exact (fun k_ hk => ⟨(Nat.le_trans (keep_size (w := w) (g := g) (row := none) (Rgn.kbq HK.out)) hk), Kd.fresh' (Kd.R_lt (Rgn.rq HO_215000.out)) k_ hk, Kd.freshB (g := gb204) (o := .cells #[.slice none 0 0, .slice none 0 0] 29 (0, 0)) (Rgn.kb BK204.out) k_ hk, Kd.freshB (g := gb214) (o := .cells #[u215000, u215001] 29 (0, 0)) (Rgn.kb BK214.out) k_ hk, IsS90.fresh (IsS90.q HI0.out) k_ hk⟩))
          (case aO => exact (Rgn.nq (Kd.N_mono HO_215001.out (fun _ hk => ⟨hk.1.1, ⟨hk.1.2.1, ⟨hk.1.2.2.1, ⟨hk.1.2.2.2.1, hk.1.2.2.2.2⟩⟩⟩⟩))))
          (case aS => exact (keep_size (w := w) (g := g) (row := none) (Rgn.kbq HK.out)))
          (case aL => have := LMc37.out; omega)
          intro v242 w42 ho hb hg hat
          rw [← Ny241.out] at ho
          replace HO_215000 := Aside0.mk (Kd.R_over' (Rgn.rq HO_215000.out) (Kd.N_typed (Rgn.nq HO_215001.out)) (by decide) hg)
          replace BK204 := Aside0.mk (Rgn.bg BK204.out hg (Kd.N_ne HO_215001.out BK204.out (by decide)))
          replace BK214 := Aside0.mk (Rgn.bg BK214.out hg (Kd.N_ne HO_215001.out BK214.out (by decide)))
          replace HB := Aside0.mk (below_weaken (Rgn.bs HB.out (IsS90.ge HI0.out)) HL.out hb)
          replace HI0 := Aside0.mk (IsS90.grown (IsS90.q HI0.out) hg (IsS90.own_neN HI0.out HO_215001.out (by decide)))
          replace HK := Aside0.mk (KeepBut.trans (Rgn.kbq HK.out) (KeepBut.of_grown hg g) (Kd.N_base2 HO_215001.out))
          have HO243 := Aside0.mk (ho)
          clear HO238 HO_215001
          clear ho hb hg hat
          obtain ⟨Ao43, co43, eo43⟩ := Kd.N_slice HO243.out
          (first | subst eo43 | (injection eo43 with f1_ f2_ f3_; have f4_ := f1_.symm; have f5_ := f3_.symm; clear f1_ f2_ f3_; subst f4_; subst f5_))
          refine hK.out _ _ ⟨(blk_cell BK214.out 0).trans rfl, (blk_cell BK214.out 1).trans rfl⟩ (fun hHeld => ?_)
          clear hK K
          refine norm_ (a' := ?_) ?_ ?_
          rotate_left
          ·
           show Act.put _ (some 56) _ = _
           simp only [Act.put, List.setIfInBounds_toArray, List.set_cons_zero, List.set_cons_succ, i64_w, i32_w]
           rfl
          refine Rgn.pu HT_.out 10 57 ?_
          refine last_ (i := 11) (N := none) #[true, true, true, true, true, true, true, true, true, true, true, true] rfl rfl (one_of HT_.out (by kernel_rfl)) (by decide) (fun K hK => ?_)
          have hs44 : w42.cell? ⟨gb214, 1, none⟩ = some (u215001) := (blk_cell BK214.out 1).trans rfl
          have hfs44 := blk_frozen BK214.out 1
          have hns44_0 := NB204_214.out
          have hms44_0 := NB214_204.out
          refine skip_ (w1 := ?_) (by rfl) rfl ?_ ?_
          rotate_left
          ·
           go_simp
           rfl
          refine hK.out _ _ ?_
          clear hK K
          refine done_ (done_of HT_.out (by kernel_rfl)) ?_
          try go_wp2
          go_roundg k3
          case measure => have := HK1.out; have := HJ26.out; have := HK3.out; omega
          case rel => exact ⟨(wrap64 (x8_3 + 1)), (t239), (t240), (y241), (.slice Ao43 y241.length co43), (by first | rfl | (simp; done) | (simp [*]; done)), H', ⟨by have := HK1.out; have := HJ26.out; have := HK3.out; omega⟩, ⟨by (with_reducible repeat (first | apply Kd.R_alloc | apply Kd.R_drewN | apply Kd.R_drew)); exact Kd.R_mono (Kd.R_far (p := ⟨gb214, 1, none⟩) (Kd.R_types HO_215000.out BK214.out (by decide)) (fun _ hk => hk.2) (.slice Ao43 y241.length co43)) (fun _ hk => hk.1.1)⟩, ⟨by (with_reducible repeat (first | apply Kd.N_alloc | apply Kd.N_drewN | apply Kd.N_drew)); exact Kd.N_mono (Kd.N_far (p := ⟨gb214, 1, none⟩) (Kd.N_mono HO243.out (fun k_ hk => (⟨hk, hk.2.2.2.1⟩ : _ ∧ k_ ≠ gb214))) (fun _ hk => hk.2) (.slice Ao43 y241.length co43)) (fun _ hk => ⟨hk.1.1, ⟨hk.1.2.1, ⟨hk.1.2.2.1, ⟨hk.1.2.2.2.1, hk.1.2.2.2.2⟩⟩⟩⟩)⟩, ⟨Rgn.kf BK204.out⟩, ⟨by (with_reducible repeat (first | refine blk_drewN ?_ _ | refine blk_drew ?_ | refine blk_alloc ?_ _)); refine blk_put (cs := #[u215000, u215001]) ?_ 1 _ rfl; (with_reducible repeat (first | refine blk_drewN ?_ _ | refine blk_drew ?_ | refine blk_alloc ?_ _)); exact BK214.out⟩, ⟨IsS90.q HI0.out⟩, ⟨Rgn.kbq HK.out⟩, ⟨Rgn.bs HB.out (IsS90.ge HI0.out)⟩⟩
         ·
          rw [if_neg c37] at H
          exact absurd H (by simp)
        ·
         rw [if_neg c34] at H
         have c34b0 : decide (x8_3 < x7_26) = false := decide_eq_false c34
         clear c34
         have HC45 := Aside0.mk H
         clear H
         go_upto_if 59 with (fail)
         go_cut [] (fun wc => ∃ (kq : Nat) (x215000_44 : List Int) (u215000 : Value), Aside0 (spec_l1DrawDisk.j3 kq (wrap64 (1 + t205)) t224 s0_0 x1001_3 x1002_3 x215000_44 x215001_3 = some (r1, r2, r3, r4)) ∧ Aside0 (kq ≤ k3) ∧ Aside0 (Kd.R (Kd.int .u8) 5 wc w.heap.size (fun k_ => (w.heap.size ≤ k_)) u215000 x215000_44) ∧ Aside0 (Kd.N k62 62 wc w.heap.size (fun k_ => (w.heap.size ≤ k_) ∧ some k_ ≠ (u215000 : Value).ownBlock ∧ k_ ≠ gb204 ∧ k_ ≠ gb214 ∧ k_ ≠ g) u215001 x215001_3) ∧ Aside0 (wc.heap[gb204]? = some (.cells #[(.slice none 0 0), (.slice none 0 0)] 29 (0, 0))) ∧ Aside0 (wc.heap[gb214]? = some (.cells #[u215000, u215001] 29 (0, 0))) ∧ Aside0 (IsS90 w0 wc g s0_0 x1001_3 x1002_3) ∧ Aside0 (KeepBut w wc g none) ∧ Aside0 (Below w0.heap.size w0 wc))
         case first =>
          have H := HC45.out
          clear HC45
          by_cases c46 : t224 = 1
          ·
           rw [if_pos c46] at H
           have c46b0 : (t224 == 1) = true := beq_iff_eq.mpr c46
           have c46b1 : (t224 != 1) = false := bne_eq_false_iff_eq.mpr c46
           clear c46
           (first | rw [c46b0] | (simp only [i64_w, i32_w]; rw [c46b0]) | skip)
           by_cases c47 : x215000_1.length < 140737488355328
           ·
            rw [if_pos c47] at H
            have LMc47 := Aside0.mk c47
            clear c47
            obtain ⟨y244, hy244⟩ : ∃ y_ : List Int, y_ = (x215000_1 ++ [0]) := ⟨_, rfl⟩
            replace H : (spec_l1DrawDisk.j3 k3 (wrap64 (1 + t205)) t224 s0_0 x1001_3 x1002_3 y244 x215001_3) = some (r1, r2, r3, r4) := by first | (rw [hy244]; with_reducible exact H) | (have H2_ := (Option.bind_some _ _).symm.trans H; rw [hy244]; with_reducible exact H2_) | (have H2_ := (Option.bind_some _ _).symm.trans H; with_reducible exact H2_) | with_reducible exact H | (rw [hy244]; exact H) | exact H
            have Ny244 := Aside0.mk hy244
            clear hy244
            have H' := Aside0.mk H
            clear H
            have hnb48 := NB214_204.out
            have hnc48 := NB204_214.out
            have hnb49 := NB214_0.out
            have hnc49 := NB0_214.out
            have hcz50_0 := Rgn.cz0 BK214.out
            have hcz50_1 := Rgn.cz1 BK214.out
            have hfz50_0 := blk_frozen BK214.out 0
            have hfz50_1 := blk_frozen BK214.out 1
            go_wp2_with (first | ((with_reducible refine gate_builtin (b := .append) (xs := #[.tmp 61, .tmp 62]) rfl ?_); (try (refine gate_guard (by rfl) ?_; dsimp only)); at_builtin; refine Kd.R_append (Kd.int .u8) w.heap.size rfl (.tmp 61) (.tmp 62) 22 5 (.int .u8 0) 1 rfl Try.underlying22 info5 rfl (by decide) (by omega) u215000 x215000_1 0 [.int .u8 0] (fun k_ => (w.heap.size ≤ k_)) (fun _ => False) rfl rfl ?aP (fun _ hk => hk.elim) ?aF ?aO (Below.refl _ _) ?aS ?aL ?_; (case aP => exact rfl); (case aF => exact (fun k_ hk => (Nat.le_trans (keep_size (w := w) (g := g) (row := none) (Rgn.kbq HK.out)) hk))); (case aO => exact (Rgn.rq HO_215000.out)); (case aS => exact (keep_size (w := w) (g := g) (row := none) (Rgn.kbq HK.out))); (case aL => have := LMc47.out; omega); intro v245 w51 ho hb hg hat; rw [← Ny244.out] at ho; replace HO_215001 := Aside0.mk (Kd.N_afterv (ok := (fun k_ => (w.heap.size ≤ k_) ∧ k_ ≠ gb204 ∧ k_ ≠ gb214 ∧ k_ ≠ g)) (Rgn.nq (Kd.N_mono HO_215001.out (fun _ hk => ⟨⟨hk.1, ⟨hk.2.2.1, ⟨hk.2.2.2.1, hk.2.2.2.2⟩⟩⟩, hk.2.1⟩))) hg hat); replace BK204 := Aside0.mk (Rgn.bg BK204.out hg (Kd.R_ne HO_215000.out BK204.out (by decide))); replace BK214 := Aside0.mk (Rgn.bg BK214.out hg (Kd.R_ne HO_215000.out BK214.out (by decide))); replace HB := Aside0.mk (below_weaken (Rgn.bs HB.out (IsS90.ge HI0.out)) HL.out hb); replace HI0 := Aside0.mk (IsS90.grown (IsS90.q HI0.out) hg (IsS90.own_ne HI0.out HO_215000.out (by decide))); replace HK := Aside0.mk (KeepBut.trans (Rgn.kbq HK.out) (KeepBut.of_grown hg g) (Kd.R_base2 HO_215000.out)); have HO246 := Aside0.mk (ho); clear HO_215000; clear ho hb hg hat; obtain ⟨Ao52, co52, eo52⟩ := Kd.R_slice HO246.out; subst eo52; obtain ⟨hcz53_0, hcz53_1, hfz53_0, hfz53_1⟩ := Rgn.c2 BK214.out))
            go_meet
            case rel => exact ⟨_, (y244), (.slice Ao52 y244.length co52), H', ⟨by have := HK1.out; have := HJ26.out; have := HK3.out; first | omega | exact Nat.le_refl _⟩, ⟨by (with_reducible repeat (first | apply Kd.R_alloc | apply Kd.R_drewN | apply Kd.R_drew)); exact Kd.R_mono (Kd.R_far (p := ⟨gb214, 0, none⟩) (Kd.R_types HO246.out BK214.out (by decide)) (fun _ hk => hk.2) (.slice Ao52 y244.length co52)) (fun _ hk => hk.1)⟩, ⟨by (with_reducible repeat (first | apply Kd.N_alloc | apply Kd.N_drewN | apply Kd.N_drew)); exact Kd.N_mono (Kd.N_far (p := ⟨gb214, 0, none⟩) (Kd.N_mono HO_215001.out (fun k_ hk => (⟨hk, hk.1.2.2.1⟩ : _ ∧ k_ ≠ gb214))) (fun _ hk => hk.2) (.slice Ao52 y244.length co52)) (fun _ hk => ⟨hk.1.1.1, ⟨hk.1.2, ⟨hk.1.1.2.1, ⟨hk.1.1.2.2.1, hk.1.1.2.2.2⟩⟩⟩⟩)⟩, ⟨Rgn.kf BK204.out⟩, ⟨by (with_reducible repeat (first | refine blk_drewN ?_ _ | refine blk_drew ?_ | refine blk_alloc ?_ _)); refine blk_put (cs := #[u215000, u215001]) ?_ 0 _ rfl; (with_reducible repeat (first | refine blk_drewN ?_ _ | refine blk_drew ?_ | refine blk_alloc ?_ _)); exact BK214.out⟩, ⟨IsS90.q HI0.out⟩, ⟨Rgn.kbq HK.out⟩, ⟨Rgn.bs HB.out (IsS90.ge HI0.out)⟩⟩
           ·
            rw [if_neg c47] at H
            exact absurd H (by simp)
          ·
           rw [if_neg c46] at H
           have c46b0 : (t224 == 1) = false := beq_eq_false_iff_ne.mpr c46
           have c46b1 : (t224 != 1) = true := bne_iff_ne.mpr c46
           (first | rw [c46b0] | (simp only [i64_w, i32_w]; rw [c46b0]) | skip)
           have H' := Aside0.mk H
           clear H
           go_wp2
           go_meet
           case rel => exact ⟨_, (x215000_1), (u215000), H', ⟨by have := HK1.out; have := HJ26.out; have := HK3.out; first | omega | exact Nat.le_refl _⟩, ⟨Rgn.rq HO_215000.out⟩, ⟨by (with_reducible repeat (first | apply Kd.N_alloc | apply Kd.N_drewN | apply Kd.N_drew)); exact HO_215001.out⟩, ⟨Rgn.kb BK204.out⟩, ⟨Rgn.kb BK214.out⟩, ⟨IsS90.q HI0.out⟩, ⟨Rgn.kbq HK.out⟩, ⟨Rgn.bs HB.out (IsS90.ge HI0.out)⟩⟩
         case rest =>
          clear HC45
          try clear c1
          try clear c2
          try clear p2
          try clear c3
          try clear c4
          try clear p6
          try clear c7
          try clear c8
          try clear c9
          try clear c10
          try clear c13
          try clear c13b0
          try clear c15
          try clear c20
          try clear c31
          try clear c31b0
          try clear c31b1
          try clear c34
          try clear c34b0
          try clear c37
          try clear c46
          try clear c46b0
          try clear c46b1
          try clear c47
          try clear c48
          try clear c49
          try clear hcz11_0 hcz11_1
          try clear hcz29_0 hcz29_1 hcz29_2
          try clear hcz50_0 hcz50_1
          try clear hcz53_0 hcz53_1
          try clear hfz11_0 hfz11_1
          try clear hfz29_1 hfz29_2
          try clear hfz50_0 hfz50_1
          try clear hfz53_0 hfz53_1
          try clear p2
          try clear p6
          obtain ⟨kq, x215000_44, u215000, HA, HJ44, HO_215000, HO_215001, BK204, BK214, HI0, HK, HB⟩ := hcut
          cases kq with
          | zero => exact absurd HA.out (by simp [spec_l1DrawDisk.j3])
          | succ kj44 =>
           have H := HA.out
           clear HA
           simp only [spec_l1DrawDisk.j3] at H
           have HC54 := Aside0.mk H
           clear H
           go_upto_region 18 with (fail)
           go_cut [72] (fun v72 wc => ∃ (kq : Nat) (x72_53 : Bool), v72 = .bool x72_53 ∧ Aside0 (spec_l1DrawDisk.j4 kq (wrap64 (1 + t205)) t224 x72_53 s0_0 x1001_3 x1002_3 x215000_44 x215001_3 = some (r1, r2, r3, r4)) ∧ Aside0 (kq ≤ kj44) ∧ Aside0 (Kd.R (Kd.int .u8) 5 wc w.heap.size (fun k_ => (w.heap.size ≤ k_)) u215000 x215000_44) ∧ Aside0 (Kd.N k62 62 wc w.heap.size (fun k_ => (w.heap.size ≤ k_) ∧ some k_ ≠ (u215000 : Value).ownBlock ∧ k_ ≠ gb204 ∧ k_ ≠ gb214 ∧ k_ ≠ g) u215001 x215001_3) ∧ Aside0 (wc.heap[gb204]? = some (.cells #[(.slice none 0 0), (.slice none 0 0)] 29 (0, 0))) ∧ Aside0 (wc.heap[gb214]? = some (.cells #[u215000, u215001] 29 (0, 0))) ∧ Aside0 (IsS90 w0 wc g s0_0 x1001_3 x1002_3) ∧ Aside0 (KeepBut w wc g none) ∧ Aside0 (Below w0.heap.size w0 wc))
           case first =>
            have H := HC54.out
            clear HC54
            by_cases c55 : t224 = 2
            ·
             rw [if_pos c55] at H
             have c55b0 : (t224 == 2) = true := beq_iff_eq.mpr c55
             have c55b1 : (t224 != 2) = false := bne_eq_false_iff_eq.mpr c55
             clear c55
             (first | rw [c55b0] | (simp only [i64_w, i32_w]; rw [c55b0]) | skip)
             have H' := Aside0.mk H
             clear H
             have hnb56 := NB214_204.out
             have hnc56 := NB204_214.out
             have hnb57 := NB214_0.out
             have hnc57 := NB0_214.out
             have hcz58_0 := Rgn.cz0 BK214.out
             have hcz58_1 := Rgn.cz1 BK214.out
             have hfz58_0 := blk_frozen BK214.out 0
             have hfz58_1 := blk_frozen BK214.out 1
             obtain ⟨Ao59, co59, eo59⟩ := Kd.N_slice HO_215001.out
             subst eo59
             go_wp2
             go_meet
             case rel => exact ⟨_, (decide ((x215001_3.length : Int) > 0)), (by first | rfl | (simp; done) | (simp [*]; done)), H', ⟨by have := HK1.out; have := HJ26.out; have := HK3.out; have := HJ44.out; first | omega | exact Nat.le_refl _⟩, ⟨Rgn.rq HO_215000.out⟩, ⟨by (with_reducible repeat (first | apply Kd.N_alloc | apply Kd.N_drewN | apply Kd.N_drew)); exact HO_215001.out⟩, ⟨Rgn.kb BK204.out⟩, ⟨Rgn.kb BK214.out⟩, ⟨IsS90.q HI0.out⟩, ⟨Rgn.kbq HK.out⟩, ⟨Rgn.bs HB.out (IsS90.ge HI0.out)⟩⟩
            ·
             rw [if_neg c55] at H
             have c55b0 : (t224 == 2) = false := beq_eq_false_iff_ne.mpr c55
             have c55b1 : (t224 != 2) = true := bne_iff_ne.mpr c55
             (first | rw [c55b0] | (simp only [i64_w, i32_w]; rw [c55b0]) | skip)
             have H' := Aside0.mk H
             clear H
             go_wp2
             go_meet
             case rel => exact ⟨_, (false), (by first | rfl | (simp; done) | (simp [*]; done)), H', ⟨by have := HK1.out; have := HJ26.out; have := HK3.out; have := HJ44.out; first | omega | exact Nat.le_refl _⟩, ⟨Rgn.rq HO_215000.out⟩, ⟨by (with_reducible repeat (first | apply Kd.N_alloc | apply Kd.N_drewN | apply Kd.N_drew)); exact HO_215001.out⟩, ⟨Rgn.kb BK204.out⟩, ⟨Rgn.kb BK214.out⟩, ⟨IsS90.q HI0.out⟩, ⟨Rgn.kbq HK.out⟩, ⟨Rgn.bs HB.out (IsS90.ge HI0.out)⟩⟩
           case rest =>
            clear HC54
            try clear c1
            try clear c2
            try clear p2
            try clear c3
            try clear c4
            try clear c5
            try clear p6
            try clear c7
            try clear c8
            try clear c9
            try clear c10
            try clear c13
            try clear c13b0
            try clear c15
            try clear c20
            try clear c31
            try clear c31b0
            try clear c31b1
            try clear c34
            try clear c34b0
            try clear c37
            try clear c46
            try clear c46b0
            try clear c46b1
            try clear c47
            try clear c48
            try clear c49
            try clear c55
            try clear c55b0
            try clear c55b1
            try clear c56
            try clear c57
            try clear hcz11_0 hcz11_1
            try clear hcz29_0 hcz29_1 hcz29_2
            try clear hcz50_0 hcz50_1
            try clear hcz53_0 hcz53_1
            try clear hcz58_0 hcz58_1
            try clear hfz11_0 hfz11_1
            try clear hfz29_1 hfz29_2
            try clear hfz50_0 hfz50_1
            try clear hfz53_0 hfz53_1
            try clear hfz58_0 hfz58_1
            try clear p2
            try clear p6
            obtain ⟨kq, x72_53, rfl, HA, HJ53, HO_215000, HO_215001, BK204, BK214, HI0, HK, HB⟩ := hcut
            cases kq with
            | zero => exact absurd HA.out (by simp [spec_l1DrawDisk.j4])
            | succ kj53 =>
             have H := HA.out
             clear HA
             simp only [spec_l1DrawDisk.j4] at H
             have HC60 := Aside0.mk H
             clear H
             go_upto_if 72 with (fail)
             go_cut [] (fun wc => ∃ (kq : Nat) (x215001_59 : List (S62)) (u215001 : Value), Aside0 (spec_l1DrawDisk.j5 kq t224 s0_0 x1001_3 x1002_3 x215000_44 x215001_59 = some (r1, r2, r3, r4)) ∧ Aside0 (kq ≤ kj53) ∧ Aside0 (Kd.R (Kd.int .u8) 5 wc w.heap.size (fun k_ => (w.heap.size ≤ k_)) u215000 x215000_44) ∧ Aside0 (Kd.N k62 62 wc w.heap.size (fun k_ => (w.heap.size ≤ k_) ∧ some k_ ≠ (u215000 : Value).ownBlock ∧ k_ ≠ gb204 ∧ k_ ≠ gb214 ∧ k_ ≠ g) u215001 x215001_59) ∧ Aside0 (wc.heap[gb204]? = some (.cells #[(.slice none 0 0), (.slice none 0 0)] 29 (0, 0))) ∧ Aside0 (wc.heap[gb214]? = some (.cells #[u215000, u215001] 29 (0, 0))) ∧ Aside0 (IsS90 w0 wc g s0_0 x1001_3 x1002_3) ∧ Aside0 (KeepBut w wc g none) ∧ Aside0 (Below w0.heap.size w0 wc))
             case first =>
              have H := HC60.out
              clear HC60
              by_cases c61 : x72_53 = true
              ·
               subst c61
               have H1 : (if 0 ≤ (wrap64 ((x215001_3.length : Int) - 1)) then (if (wrap64 ((x215001_3.length : Int) - 1)) < (x215001_3.length : Int) then (spec_l1DrawDisk.j5 kj53 t224 s0_0 x1001_3 x1002_3 x215000_44 (x215001_3.set ((wrap64 ((x215001_3.length : Int) - 1)) : Int).toNat (⟨(wrap64 (1 + t205)), (rd_T62 x215001_3 (wrap64 ((x215001_3.length : Int) - 1))).f1⟩ : S62))) else (none)) else (none)) = some (r1, r2, r3, r4) := by rw [if_pos rfl] at H; exact H
               clear H
               have H := H1
               clear H1
               obtain ⟨ji62, hji62⟩ : ∃ j_ : Int, (wrap64 ((x215001_3.length : Int) - 1)) = j_ := ⟨_, rfl⟩
               replace H : (if 0 ≤ (ji62) then (if (ji62) < (x215001_3.length : Int) then (spec_l1DrawDisk.j5 kj53 t224 s0_0 x1001_3 x1002_3 x215000_44 (x215001_3.set ((ji62) : Int).toNat (⟨(wrap64 (1 + t205)), (rd_T62 x215001_3 (ji62)).f1⟩ : S62))) else (none)) else (none)) = some (r1, r2, r3, r4) := by first | (rw [hji62] at H; exact H) | (simp only [hji62] at H ⊢; exact H)
               have hji62w : (IntKind.i64.wrap ((x215001_3.length : Int) - 1)) = ji62 := (i64_w _).trans hji62
               by_cases c63 : 0 ≤ (ji62)
               ·
                rw [if_pos c63] at H
                have c63b0 : decide (0 ≤ (ji62)) = true := decide_eq_true c63
                clear c63
                (first | rw [c63b0] | (simp only [i64_w, i32_w]; rw [c63b0]) | skip)
                by_cases c64 : (ji62) < (x215001_3.length : Int)
                ·
                 rw [if_pos c64] at H
                 have c64b0 : decide ((ji62) < (x215001_3.length : Int)) = true := decide_eq_true c64
                 clear c64
                 obtain ⟨y247, hy247⟩ : ∃ y_ : List (S62), y_ = (x215001_3.set ((ji62) : Int).toNat (⟨(wrap64 (1 + t205)), (rd_T62 x215001_3 (ji62)).f1⟩ : S62)) := ⟨_, rfl⟩
                 replace H : (spec_l1DrawDisk.j5 kj53 t224 s0_0 x1001_3 x1002_3 x215000_44 y247) = some (r1, r2, r3, r4) := by first | (rw [hy247]; with_reducible exact H) | (have H2_ := (Option.bind_some _ _).symm.trans H; rw [hy247]; with_reducible exact H2_) | (have H2_ := (Option.bind_some _ _).symm.trans H; with_reducible exact H2_) | with_reducible exact H | (rw [hy247]; exact H) | exact H
                 have Ny247 := Aside0.mk hy247
                 clear hy247
                 have H' := Aside0.mk H
                 clear H
                 have hnb66 := NB214_204.out
                 have hnc66 := NB204_214.out
                 have hnb67 := NB214_0.out
                 have hnc67 := NB0_214.out
                 have hcz68_0 := Rgn.cz0 BK214.out
                 have hcz68_1 := Rgn.cz1 BK214.out
                 have hfz68_0 := blk_frozen BK214.out 0
                 have hfz68_1 := blk_frozen BK214.out 1
                 obtain ⟨Ao69, co69, eo69⟩ := Kd.N_slice HO_215001.out
                 subst eo69
                 have p65 : 0 ≤ ((ji62) : Int) := of_decide_eq_true (by first | (with_reducible assumption) | assumption)
                 have q65 : ((ji62) : Int) < ((x215001_3.length : Int) : Int) := of_decide_eq_true (by first | (with_reducible assumption) | assumption)
                 obtain ⟨go65, co65, eo65, gb65, gl65, cl65, HG65⟩ := Kd.N_form HO_215001.out (by omega)
                 (first | cases eo65 | (injection eo65 with ea_ en_ ec_; (first | subst ea_ | (injection ea_ with ea_; subst ea_)); subst ec_; clear en_))
                 have GB65 := Aside0.mk gb65
                 have GG65 := Aside0.mk HG65
                 clear gb65 gl65 HG65
                 obtain ⟨ce65, hcl65, hM65, hcc65, hfr65⟩ := Kd.N_elem HO_215001.out z62 ((ji62) : Int) p65 q65
                 obtain ⟨ua65_1, uc65_1, rfl, ul65_1, ge65_1⟩ := k62_openF hM65
                 have hx65_0 : wc.cell? ⟨go65, ((ji62) : Int).toNat * 2, none⟩ = some (.int .i64 ((rd_T62 x215001_3 (ji62)).f0)) := hcc65 0 _ rfl
                 have hx65_1 : wc.cell? ⟨go65, ((ji62) : Int).toNat * 2 + 1, none⟩ = some (.slice ua65_1 ((rd_T62 x215001_3 (ji62)).f1).length uc65_1) := hcc65 1 _ rfl
                 have hf65_0 : wc.frozen? ⟨go65, ((ji62) : Int).toNat * 2, none⟩ = false := hfr65 0
                 have hf65_1 : wc.frozen? ⟨go65, ((ji62) : Int).toNat * 2 + 1, none⟩ = false := hfr65 1
                 clear hcl65 hcc65 hfr65 hM65
                 replace p65 := eq_true p65
                 replace q65 := eq_true q65
                 have HX70 := Aside0.mk (show Kd.N k62 62 wc w.heap.size (fun k_ => (w.heap.size ≤ k_) ∧ some k_ ≠ (u215000 : Value).ownBlock ∧ k_ ≠ gb204 ∧ k_ ≠ gb214 ∧ k_ ≠ g) (.slice (some ⟨go65, 0, none⟩) x215001_3.length co69) x215001_3 from (Rgn.nq HO_215001.out))
                 obtain ⟨ce70, hcl70, hM70, hcc70, hfr70⟩ := Kd.N_elem HX70.out z62 ((ji62) : Int) (of_decide_eq_true (by first | (with_reducible assumption) | assumption)) (by have h_ : ((ji62) : Int) < ((x215001_3.length : Int) : Int) := of_decide_eq_true (by first | (with_reducible assumption) | assumption); first | exact h_ | (have e_ := (Kd.N_reads' HO_215001.out).1; omega) | simpa using h_)
                 obtain ⟨ua70_1, uc70_1, rfl, ul70_1, ge70_1⟩ := k62_openF hM70
                 have HP70 := Kd.N_seg HX70.out ((ji62) : Int) (of_decide_eq_true (by first | (with_reducible assumption) | assumption)) (by have h_ : ((ji62) : Int) < ((x215001_3.length : Int) : Int) := of_decide_eq_true (by first | (with_reducible assumption) | assumption); first | exact h_ | (have e_ := (Kd.N_reads' HO_215001.out).1; omega) | simpa using h_) (seg := [.int .i64 (wrap64 (1 + t205))]) (j := 0) hcl70 hcc70 (show 1 ≤ 2 from by decide) (x' := (⟨(wrap64 (1 + t205)), (rd_T62 x215001_3 (ji62)).f1⟩ : S62)) (k62_mkF _ _ (⟨(wrap64 (1 + t205)), (rd_T62 x215001_3 (ji62)).f1⟩ : S62) ul70_1 ge70_1) (fun _ hk => hk)
                 have hx70_0 := hcc70 0 _ rfl
                 (try simp only [show (k62).sz = 2 from rfl, Nat.mul_one, Nat.add_zero] at hx70_0)
                 have hf70_0 := hfr70 0
                 (try simp only [show (k62).sz = 2 from rfl, Nat.mul_one, Nat.add_zero] at hf70_0)
                 clear hcl70 hcc70 hfr70 hM70
                 go_wp2_with (first | ((with_reducible refine gate_store (t := 2) (p := 81) rfl ?_); refine store_event (t := 2) (p := 81) (v := ?vo_w71) (w1 := (wc.setCell ⟨go65, ((ji62) : Int).toNat * 2, none⟩ (.int .i64 (wrap64 (1 + t205))))) ?hg ?ho ?hn ?hr ?_; (case ho => rfl); (case hg => rfl); (case hn => rfl); (case hr => first | (go_simp; done) | (go_simp; rfl)); intro w71 hw; have hg : wc.grownBy w71 (some go65) := (by rw [hw]; exact HP70.2); have hp_ : Kd.N k62 62 w71 w.heap.size (fun k_ => (w.heap.size ≤ k_) ∧ some k_ ≠ (u215000 : Value).ownBlock ∧ k_ ≠ gb204 ∧ k_ ≠ gb214 ∧ k_ ≠ g) (.slice (some ⟨go65, 0, none⟩) x215001_3.length co69) y247 := (by rw [hw, Ny247.out]; exact HP70.1); clear HP70; replace HO_215000 := Aside0.mk (Kd.R_over' (v := (.slice (some ⟨go65, 0, none⟩) x215001_3.length co69)) (Rgn.rq HO_215000.out) (Kd.N_typed HO_215001.out) (by decide) hg); replace BK204 := Aside0.mk (Rgn.bg BK204.out hg (Kd.N_ne HO_215001.out BK204.out (by decide))); replace BK214 := Aside0.mk (Rgn.bg BK214.out hg (Kd.N_ne HO_215001.out BK214.out (by decide))); replace HI0 := Aside0.mk (IsS90.grown (IsS90.q HI0.out) hg (IsS90.own_neN HI0.out HO_215001.out (by decide))); replace HB := Aside0.mk ((by rw [hw]; exact below_set (HB.out) (Nat.le_trans HL.out GB65.out) : Below w0.heap.size w0 w71)); replace HK := Aside0.mk (KeepBut.trans (Rgn.kbq HK.out) (KeepBut.of_grown hg g) (Kd.N_base2 HO_215001.out)); replace HO_215001 := Aside0.mk (hp_); clear hg hw hp_))
                 go_meet
                 case rel => exact ⟨_, (y247), (.slice (some ⟨go65, 0, none⟩) x215001_3.length co69), H', ⟨by have := HK1.out; have := HJ26.out; have := HK3.out; have := HJ44.out; have := HJ53.out; first | omega | exact Nat.le_refl _⟩, ⟨Rgn.rq HO_215000.out⟩, ⟨by (with_reducible repeat (first | apply Kd.N_alloc | apply Kd.N_drewN | apply Kd.N_drew)); exact HO_215001.out⟩, ⟨Rgn.kb BK204.out⟩, ⟨Rgn.kb BK214.out⟩, ⟨IsS90.q HI0.out⟩, ⟨Rgn.kbq HK.out⟩, ⟨Rgn.bs HB.out (IsS90.ge HI0.out)⟩⟩
                ·
                 rw [if_neg c64] at H
                 exact absurd H (by simp)
               ·
                rw [if_neg c63] at H
                exact absurd H (by simp)
              ·
               replace c61 := Bool.eq_false_iff.mpr c61
               subst c61
               have H1 : (spec_l1DrawDisk.j5 kj53 t224 s0_0 x1001_3 x1002_3 x215000_44 x215001_3) = some (r1, r2, r3, r4) := by rw [if_neg (show ¬ (false = true) by decide)] at H; exact H
               clear H
               have H := H1
               clear H1
               have H' := Aside0.mk H
               clear H
               go_wp2
               go_meet
               case rel => exact ⟨_, (x215001_3), (u215001), H', ⟨by have := HK1.out; have := HJ26.out; have := HK3.out; have := HJ44.out; have := HJ53.out; first | omega | exact Nat.le_refl _⟩, ⟨Rgn.rq HO_215000.out⟩, ⟨by (with_reducible repeat (first | apply Kd.N_alloc | apply Kd.N_drewN | apply Kd.N_drew)); exact HO_215001.out⟩, ⟨Rgn.kb BK204.out⟩, ⟨Rgn.kb BK214.out⟩, ⟨IsS90.q HI0.out⟩, ⟨Rgn.kbq HK.out⟩, ⟨Rgn.bs HB.out (IsS90.ge HI0.out)⟩⟩
             case rest =>
              clear HC60
              try clear c1
              try clear c2
              try clear p2
              try clear c3
              try clear c4
              try clear c5
              try clear c6
              try clear p6
              try clear q6
              try clear hx6
              try clear hf6
              try clear c7
              try clear hx7
              try clear hf7
              try clear c8
              try clear c9
              try clear c10
              try clear c13
              try clear c13b0
              try clear c15
              try clear c20
              try clear c31
              try clear c31b0
              try clear c31b1
              try clear c34
              try clear c34b0
              try clear c37
              try clear c46
              try clear c46b0
              try clear c46b1
              try clear c47
              try clear c48
              try clear c49
              try clear c55
              try clear c55b0
              try clear c55b1
              try clear c56
              try clear c57
              try clear c61
              try clear c63
              try clear c63b0
              try clear c64
              try clear c64b0
              try clear p64
              try clear c65
              try clear p65
              try clear q65
              try clear hx65
              try clear hf65
              try clear c66
              try clear c67
              try clear c70
              try clear hx70
              try clear hf70
              try clear hcz11_0 hcz11_1
              try clear hcz29_0 hcz29_1 hcz29_2
              try clear hcz50_0 hcz50_1
              try clear hcz53_0 hcz53_1
              try clear hcz58_0 hcz58_1
              try clear hcz68_0 hcz68_1
              try clear hfz11_0 hfz11_1
              try clear hfz29_1 hfz29_2
              try clear hfz50_0 hfz50_1
              try clear hfz53_0 hfz53_1
              try clear hfz58_0 hfz58_1
              try clear hfz68_0 hfz68_1
              try clear hx65_0
              try clear hx65_1
              try clear hx70_0
              try clear p2
              try clear p6
              try clear p65
              try clear q65
              obtain ⟨kq, x215001_59, u215001, HA, HJ59, HO_215000, HO_215001, BK204, BK214, HI0, HK, HB⟩ := hcut
              cases kq with
              | zero => exact absurd HA.out (by simp [spec_l1DrawDisk.j5])
              | succ kj59 =>
               have H := HA.out
               clear HA
               simp only [spec_l1DrawDisk.j5] at H
               have HC72 := Aside0.mk H
               clear H
               go_upto_region 20 with (fail)
               go_cut [89] (fun v89 wc => ∃ (kq : Nat) (x89_71 : Bool), v89 = .bool x89_71 ∧ Aside0 (spec_l1DrawDisk.j6 kq t224 x89_71 s0_0 x1001_3 x1002_3 x215000_44 x215001_59 = some (r1, r2, r3, r4)) ∧ Aside0 (kq ≤ kj59) ∧ Aside0 (Kd.R (Kd.int .u8) 5 wc w.heap.size (fun k_ => (w.heap.size ≤ k_)) u215000 x215000_44) ∧ Aside0 (Kd.N k62 62 wc w.heap.size (fun k_ => (w.heap.size ≤ k_) ∧ some k_ ≠ (u215000 : Value).ownBlock ∧ k_ ≠ gb204 ∧ k_ ≠ gb214 ∧ k_ ≠ g) u215001 x215001_59) ∧ Aside0 (wc.heap[gb204]? = some (.cells #[(.slice none 0 0), (.slice none 0 0)] 29 (0, 0))) ∧ Aside0 (wc.heap[gb214]? = some (.cells #[u215000, u215001] 29 (0, 0))) ∧ Aside0 (IsS90 w0 wc g s0_0 x1001_3 x1002_3) ∧ Aside0 (KeepBut w wc g none) ∧ Aside0 (Below w0.heap.size w0 wc))
               case first =>
                have H := HC72.out
                clear HC72
                by_cases c73 : t224 = 3
                ·
                 rw [if_pos c73] at H
                 have c73b0 : (t224 == 3) = true := beq_iff_eq.mpr c73
                 have c73b1 : (t224 != 3) = false := bne_eq_false_iff_eq.mpr c73
                 clear c73
                 (first | rw [c73b0] | (simp only [i64_w, i32_w]; rw [c73b0]) | skip)
                 have H' := Aside0.mk H
                 clear H
                 have hnb74 := NB214_204.out
                 have hnc74 := NB204_214.out
                 have hnb75 := NB214_0.out
                 have hnc75 := NB0_214.out
                 have hcz76_0 := Rgn.cz0 BK214.out
                 have hcz76_1 := Rgn.cz1 BK214.out
                 have hfz76_0 := blk_frozen BK214.out 0
                 have hfz76_1 := blk_frozen BK214.out 1
                 obtain ⟨Ao77, co77, eo77⟩ := Kd.N_slice HO_215001.out
                 subst eo77
                 go_wp2
                 go_meet
                 case rel => exact ⟨_, (decide ((x215001_59.length : Int) > 0)), (by first | rfl | (simp; done) | (simp [*]; done)), H', ⟨by have := HK1.out; have := HJ26.out; have := HK3.out; have := HJ44.out; have := HJ53.out; have := HJ59.out; first | omega | exact Nat.le_refl _⟩, ⟨Rgn.rq HO_215000.out⟩, ⟨by (with_reducible repeat (first | apply Kd.N_alloc | apply Kd.N_drewN | apply Kd.N_drew)); exact HO_215001.out⟩, ⟨Rgn.kb BK204.out⟩, ⟨Rgn.kb BK214.out⟩, ⟨IsS90.q HI0.out⟩, ⟨Rgn.kbq HK.out⟩, ⟨Rgn.bs HB.out (IsS90.ge HI0.out)⟩⟩
                ·
                 rw [if_neg c73] at H
                 have c73b0 : (t224 == 3) = false := beq_eq_false_iff_ne.mpr c73
                 have c73b1 : (t224 != 3) = true := bne_iff_ne.mpr c73
                 (first | rw [c73b0] | (simp only [i64_w, i32_w]; rw [c73b0]) | skip)
                 have H' := Aside0.mk H
                 clear H
                 go_wp2
                 go_meet
                 case rel => exact ⟨_, (false), (by first | rfl | (simp; done) | (simp [*]; done)), H', ⟨by have := HK1.out; have := HJ26.out; have := HK3.out; have := HJ44.out; have := HJ53.out; have := HJ59.out; first | omega | exact Nat.le_refl _⟩, ⟨Rgn.rq HO_215000.out⟩, ⟨by (with_reducible repeat (first | apply Kd.N_alloc | apply Kd.N_drewN | apply Kd.N_drew)); exact HO_215001.out⟩, ⟨Rgn.kb BK204.out⟩, ⟨Rgn.kb BK214.out⟩, ⟨IsS90.q HI0.out⟩, ⟨Rgn.kbq HK.out⟩, ⟨Rgn.bs HB.out (IsS90.ge HI0.out)⟩⟩
               case rest =>
                clear HC72
                try clear c1
                try clear c2
                try clear p2
                try clear c3
                try clear c4
                try clear c5
                try clear c6
                try clear p6
                try clear q6
                try clear hx6
                try clear hf6
                try clear c7
                try clear hx7
                try clear hf7
                try clear c8
                try clear c9
                try clear c10
                try clear c13
                try clear c13b0
                try clear c15
                try clear c20
                try clear c31
                try clear c31b0
                try clear c31b1
                try clear c34
                try clear c34b0
                try clear c37
                try clear c46
                try clear c46b0
                try clear c46b1
                try clear c47
                try clear c48
                try clear c49
                try clear c55
                try clear c55b0
                try clear c55b1
                try clear c56
                try clear c57
                try clear c61
                try clear c63
                try clear c63b0
                try clear c64
                try clear c64b0
                try clear p64
                try clear c65
                try clear p65
                try clear q65
                try clear hx65
                try clear hf65
                try clear c66
                try clear c67
                try clear c70
                try clear hx70
                try clear hf70
                try clear c73
                try clear c73b0
                try clear c73b1
                try clear c74
                try clear c75
                try clear hcz11_0 hcz11_1
                try clear hcz29_0 hcz29_1 hcz29_2
                try clear hcz50_0 hcz50_1
                try clear hcz53_0 hcz53_1
                try clear hcz58_0 hcz58_1
                try clear hcz68_0 hcz68_1
                try clear hcz76_0 hcz76_1
                try clear hfz11_0 hfz11_1
                try clear hfz29_1 hfz29_2
                try clear hfz50_0 hfz50_1
                try clear hfz53_0 hfz53_1
                try clear hfz58_0 hfz58_1
                try clear hfz68_0 hfz68_1
                try clear hfz76_0 hfz76_1
                try clear hx65_0
                try clear hx65_1
                try clear hx70_0
                try clear p2
                try clear p6
                try clear p64
                try clear p65
                try clear q6
                try clear q65
                obtain ⟨kq, x89_71, rfl, HA, HJ71, HO_215000, HO_215001, BK204, BK214, HI0, HK, HB⟩ := hcut
                cases kq with
                | zero => exact absurd HA.out (by simp [spec_l1DrawDisk.j6])
                | succ kj71 =>
                 have H := HA.out
                 clear HA
                 simp only [spec_l1DrawDisk.j6] at H
                 have HC78 := Aside0.mk H
                 clear H
                 go_upto_if 89 with (fail)
                 go_cut [] (fun wc => ∃ (kq : Nat) (x215001_77 : List (S62)) (u215001 : Value), Aside0 (spec_l1DrawDisk.j7 kq t224 s0_0 x1001_3 x1002_3 x215000_44 x215001_77 = some (r1, r2, r3, r4)) ∧ Aside0 (kq ≤ kj71) ∧ Aside0 (Kd.R (Kd.int .u8) 5 wc w.heap.size (fun k_ => (w.heap.size ≤ k_)) u215000 x215000_44) ∧ Aside0 (Kd.N k62 62 wc w.heap.size (fun k_ => (w.heap.size ≤ k_) ∧ some k_ ≠ (u215000 : Value).ownBlock ∧ k_ ≠ gb204 ∧ k_ ≠ gb214 ∧ k_ ≠ g) u215001 x215001_77) ∧ Aside0 (wc.heap[gb204]? = some (.cells #[(.slice none 0 0), (.slice none 0 0)] 29 (0, 0))) ∧ Aside0 (wc.heap[gb214]? = some (.cells #[u215000, u215001] 29 (0, 0))) ∧ Aside0 (IsS90 w0 wc g s0_0 x1001_3 x1002_3) ∧ Aside0 (KeepBut w wc g none) ∧ Aside0 (Below w0.heap.size w0 wc))
                 case first =>
                  have H := HC78.out
                  clear HC78
                  by_cases c79 : x89_71 = true
                  ·
                   subst c79
                   have H1 : (if 0 < (x215001_59.length : Int) then (if 1 ≤ (((rd_T62 x215001_59 0).f1).length : Int) then (spec_l1DrawDisk.j7 kj71 t224 s0_0 x1001_3 x1002_3 x215000_44 (x215001_59.set (0 : Int).toNat (⟨(rd_T62 x215001_59 0).f0, (((rd_T62 x215001_59 0).f1).drop 1)⟩ : S62))) else (none)) else (none)) = some (r1, r2, r3, r4) := by rw [if_pos rfl] at H; exact H
                   clear H
                   have H := H1
                   clear H1
                   by_cases c80 : 0 < (x215001_59.length : Int)
                   ·
                    rw [if_pos c80] at H
                    have c80b0 : decide (0 < (x215001_59.length : Int)) = true := decide_eq_true c80
                    have c80b1 : decide (0 < x215001_59.length) = true := decide_eq_true (by omega)
                    clear c80
                    (first | rw [c80b0] | (simp only [i64_w, i32_w]; rw [c80b0]) | skip)
                    by_cases c81 : 1 ≤ (((rd_T62 x215001_59 0).f1).length : Int)
                    ·
                     rw [if_pos c81] at H
                     have c81b0 := eq_true c81
                     have c81b1 : decide (1 ≤ (((rd_T62 x215001_59 0).f1).length : Int)) = true := decide_eq_true c81
                     clear c81
                     obtain ⟨y249, hy249⟩ : ∃ y_ : List Int, y_ = (((rd_T62 x215001_59 0).f1).drop 1) := ⟨_, rfl⟩
                     replace H : (spec_l1DrawDisk.j7 kj71 t224 s0_0 x1001_3 x1002_3 x215000_44 (x215001_59.set (0 : Int).toNat (⟨(rd_T62 x215001_59 0).f0, y249⟩ : S62))) = some (r1, r2, r3, r4) := by first | (rw [hy249]; with_reducible exact H) | (have H2_ := (Option.bind_some _ _).symm.trans H; rw [hy249]; with_reducible exact H2_) | (have H2_ := (Option.bind_some _ _).symm.trans H; with_reducible exact H2_) | with_reducible exact H | (rw [hy249]; exact H) | exact H
                     have Ny249 := Aside0.mk hy249
                     clear hy249
                     obtain ⟨y254, hy254⟩ : ∃ y_ : List (S62), y_ = (x215001_59.set (0 : Int).toNat (⟨(rd_T62 x215001_59 0).f0, y249⟩ : S62)) := ⟨_, rfl⟩
                     replace H : (spec_l1DrawDisk.j7 kj71 t224 s0_0 x1001_3 x1002_3 x215000_44 y254) = some (r1, r2, r3, r4) := by first | (rw [hy254]; with_reducible exact H) | (have H2_ := (Option.bind_some _ _).symm.trans H; rw [hy254]; with_reducible exact H2_) | (have H2_ := (Option.bind_some _ _).symm.trans H; with_reducible exact H2_) | with_reducible exact H | (rw [hy254]; exact H) | exact H
                     have Ny254 := Aside0.mk hy254
                     clear hy254
                     have H' := Aside0.mk H
                     clear H
                     try go_wp2
                     replace HO_215000 := Aside0.mk (Kd.R_drew HO_215000.out)
                     replace HO_215001 := Aside0.mk (Kd.N_drew HO_215001.out)
                     replace BK204 := Aside0.mk (blk_drew BK204.out)
                     replace BK214 := Aside0.mk (blk_drew BK214.out)
                     replace HI0 := Aside0.mk (IsS90.drew HI0.out)
                     replace HK := Aside0.mk (keep_drew HK.out)
                     replace HB := Aside0.mk (below_drew1 HB.out)
                     obtain ⟨Ao84, co84, eo84⟩ := Kd.N_slice HO_215001.out
                     (first | subst eo84 | (injection eo84 with f1_ f2_ f3_; have f4_ := f1_.symm; have f5_ := f3_.symm; clear f1_ f2_ f3_; subst f4_; subst f5_))
                     have p248 : 0 ≤ (0 : Int) := (by omega)
                     have q248 : 0 < (x215001_59.length : Int) := of_decide_eq_true (by first | (with_reducible assumption) | assumption)
                     obtain ⟨ad248, A248_1, c248_1, e248, hx248_0, hx248_1, hl248_1, hi248_1⟩ := at_T62 (Kd.N_reads' HO_215001.out).2.2 0 p248 q248
                     cases e248
                     obtain ⟨ce248, hce248, hMe248, hcc248⟩ := Kd.N_get HO_215001.out z62 0 p248 (by first | exact q248 | exact of_decide_eq_true (by first | (with_reducible assumption) | assumption) | (have e_ := (Kd.N_reads' HO_215001.out).1; omega))
                     obtain ⟨ua248_1, uc248_1, rfl, ul248_1, ge248_1⟩ := k62_openF hMe248
                     have hv248_1 := hcc248 1 _ rfl
                     rw [add_field _ _ 1 (by omega)] at hv248_1
                     replace hv248_1 := Option.some.inj (hv248_1.symm.trans hx248_1)
                     injection hv248_1 with hva_ hvn_ hvc_
                     rw [hva_] at ge248_1
                     rw [hvc_] at ul248_1
                     have HL248_1 := Aside0.mk (show Kd.V (Kd.int .u8) 5 _ w.heap.size _ _ ((rd_T62 x215001_59 0).f1) from Kd.V_mk ul248_1 ge248_1)
                     clear hva_ hvn_ hvc_ ge248_1 ul248_1
                     clear hcc248 hce248
                     have qi248 : (0 < x215001_59.length) = True := eq_true (by omega)
                     (try rw [show ((0 : Int)).toNat = 0 from rfl] at hx248_0)
                     (try rw [show 0 * 2 = 0 from rfl] at hx248_0)
                     (try rw [Addr.add_zero'] at hx248_0)
                     (try rw [show ((0 : Int)).toNat = 0 from rfl] at hx248_1)
                     (try rw [show 0 * 2 = 0 from rfl] at hx248_1)
                     (try rw [Addr.add_zero'] at hx248_1)
                     have HR248_1 := Aside0.mk hi248_1
                     have HC248_1 := Aside0.mk hl248_1
                     clear hi248_1 hl248_1
                     replace p248 := eq_true p248
                     replace q248 := eq_true q248
                     have q85 : (1 : Int) ≤ ((((rd_T62 x215001_59 0).f1).length : Int) : Int) := of_decide_eq_true (by first | (with_reducible assumption) | assumption)
                     obtain ⟨i085, hi085, _, hsz85, _⟩ := info_parts info5
                     have hroom85 : ((rd_T62 x215001_59 0).f1).length ≤ c248_1 := HC248_1.out
                     have hC85 : Kd.F (Kd.int .u8) _ _ A248_1 ((rd_T62 x215001_59 0).f1).length ((rd_T62 x215001_59 0).f1) := (Kd.V_at (base := w.heap.size) HL248_1.out).2.2
                     have hcut85 := cut_from (P := Try.prog) 22 5 .i64 Try.underlying22 hi085 1 hsz85 A248_1 ((rd_T62 x215001_59 0).f1).length c248_1 1 (by omega) q85
                     have hr85 := Kd.F_cut (m := (1 : Int).toNat) (c := c248_1) hC85 (by omega) hroom85
                     obtain ⟨A85, hA85⟩ : ∃ A1, A1 = (if c248_1 = (1 : Int).toNat then A248_1 else (A248_1 : Option Addr).map (·.add ((1 : Int).toNat * 1))) := ⟨_, rfl⟩
                     obtain ⟨c85, hc85⟩ : ∃ c1, c1 = c248_1 - (1 : Int).toNat := ⟨_, rfl⟩
                     have hy85 : y249.length = ((rd_T62 x215001_59 0).f1).length - (1 : Int).toNat := (by rw [Ny249.out, List.length_drop] <;> omega)
                     rw [show ((rd_T62 x215001_59 0).f1).drop (1 : Int).toNat = y249 from Ny249.out.symm] at hr85
                     replace hr85 : Kd.F (Kd.int .u8) _ _ A85 y249.length y249 := (by rw [hA85]; exact hr85)
                     rw [← hy85, ← hA85, ← hc85] at hcut85
                     have HO253 := Aside0.mk (show Kd.V (Kd.int .u8) 5 _ w.heap.size _ (.slice A85 y249.length c85) y249 from Kd.V_mk (by rw [hy85, hc85]; exact Nat.sub_le_sub_right hroom85 _) hr85)
                     have HC253 := Aside0.mk (show y249.length ≤ c85 from by rw [hy85, hc85]; exact Nat.sub_le_sub_right hroom85 _)
                     clear hr85 hC85 hroom85 hi085 hsz85 hc85
                     have KY85 := Aside0.mk hy85
                     have KA85 := Aside0.mk hA85
                     clear hy85 hA85
                     replace q85 := eq_true q85
                     have p82 : 0 ≤ (0 : Int) := (by omega)
                     have q82 : (0 : Int) < ((x215001_59.length : Int) : Int) := of_decide_eq_true (by first | (with_reducible assumption) | assumption)
                     have qi82 : (0 < x215001_59.length) = True := eq_true (by omega)
                     obtain ⟨go82, co82, eo82, gb82, gl82, cl82, HG82⟩ := Kd.N_form HO_215001.out (by omega)
                     (first | cases eo82 | (injection eo82 with ea_ en_ ec_; (first | subst ea_ | (injection ea_ with ea_; subst ea_)); subst ec_; clear en_))
                     have GB82 := Aside0.mk gb82
                     have GG82 := Aside0.mk HG82
                     clear gb82 gl82 HG82
                     (first | simp only [add_plain] at hx248_0 | skip)
                     (first | simp only [add_plain] at hx248_1 | skip)
                     obtain ⟨ce82, hcl82, hM82, hcc82, hfr82⟩ := Kd.N_elem HO_215001.out z62 (0 : Int) p82 q82
                     obtain ⟨ua82_1, uc82_1, rfl, ul82_1, ge82_1⟩ := k62_openF hM82
                     have hx82_0 : World.cell? _ ⟨go82, (0 : Int).toNat * 2, none⟩ = some (.int .i64 ((rd_T62 x215001_59 0).f0)) := hcc82 0 _ rfl
                     have hx82_1 : World.cell? _ ⟨go82, (0 : Int).toNat * 2 + 1, none⟩ = some (.slice ua82_1 ((rd_T62 x215001_59 0).f1).length uc82_1) := hcc82 1 _ rfl
                     have hf82_0 : World.frozen? _ ⟨go82, (0 : Int).toNat * 2, none⟩ = false := hfr82 0
                     have hf82_1 : World.frozen? _ ⟨go82, (0 : Int).toNat * 2 + 1, none⟩ = false := hfr82 1
                     clear hcl82 hcc82 hfr82 hM82
                     (try rw [show ((0 : Int)).toNat = 0 from rfl] at hx82_0)
                     (try simp only [Nat.reduceMul, Nat.zero_mul, Nat.zero_add, Nat.reduceAdd] at hx82_0)
                     (try rw [show ((0 : Int)).toNat = 0 from rfl] at hf82_0)
                     (try simp only [Nat.reduceMul, Nat.zero_mul, Nat.zero_add, Nat.reduceAdd] at hf82_0)
                     (try rw [show ((0 : Int)).toNat = 0 from rfl] at hx82_1)
                     (try simp only [Nat.reduceMul, Nat.zero_mul, Nat.zero_add, Nat.reduceAdd] at hx82_1)
                     (try rw [show ((0 : Int)).toNat = 0 from rfl] at hf82_1)
                     (try simp only [Nat.reduceMul, Nat.zero_mul, Nat.zero_add, Nat.reduceAdd] at hf82_1)
                     replace p82 := eq_true p82
                     replace q82 := eq_true q82
                     have HN0_go82 := Aside0.mk (show g ≠ go82 from by have h_ := IsS90.own_neN HI0.out HO_215001.out (by decide); intro e_; exact h_ (by rw [e_]; rfl))
                     have HX86 := Aside0.mk (show Kd.N k62 62 _ w.heap.size (fun k_ => (w.heap.size ≤ k_) ∧ some k_ ≠ (u215000 : Value).ownBlock ∧ k_ ≠ gb204 ∧ k_ ≠ gb214 ∧ k_ ≠ g) (.slice (some ⟨go82, 0, none⟩) x215001_59.length co84) x215001_59 from (Kd.N_mono (HO_215001.out) (fun k_ hk => ⟨hk.1, ⟨hk.2.1, ⟨hk.2.2.1, ⟨hk.2.2.2.1, hk.2.2.2.2⟩⟩⟩⟩)))
                     obtain ⟨ce86, hcl86, hM86, hcc86, hfr86⟩ := Kd.N_elem HX86.out z62 (0 : Int) (by omega) (by have h_ : (0 : Int) < ((x215001_59.length : Int) : Int) := of_decide_eq_true (by first | (with_reducible assumption) | assumption); first | exact h_ | (have e_ := (Kd.N_reads' HO_215001.out).1; omega) | simpa using h_)
                     obtain ⟨ua86_1, uc86_1, rfl, ul86_1, ge86_1⟩ := k62_openF hM86
                     have HP86 := (Kd.N_seg HX86.out (0 : Int) (by omega) (by have h_ : (0 : Int) < ((x215001_59.length : Int) : Int) := of_decide_eq_true (by first | (with_reducible assumption) | assumption); first | exact h_ | (have e_ := (Kd.N_reads' HO_215001.out).1; omega) | simpa using h_) (seg := [.slice A85 y249.length c85]) (j := 1) hcl86 hcc86 (show 2 ≤ 2 from by decide) (x' := (⟨(rd_T62 x215001_59 0).f0, y249⟩ : S62)) (k62_mkF _ _ (⟨(rd_T62 x215001_59 0).f0, y249⟩ : S62) (Kd.V_reads' (Kd.V_mono (ok' := (fun k_ => ((fun k_ => (w.heap.size ≤ k_) ∧ some k_ ≠ (u215000 : Value).ownBlock ∧ k_ ≠ gb204 ∧ k_ ≠ gb214 ∧ k_ ≠ g)) k_ ∧ k_ ≠ go82)) (HO253.out) (fun k_ hk => ⟨⟨hk.1.1, ⟨hk.1.2.1, ⟨hk.1.2.2.1, ⟨hk.1.2.2.2.1, hk.1.2.2.2.2⟩⟩⟩⟩, fun e_ => (hk.2) (by rw [e_]; rfl)⟩))).2.1 (Kd.V_F (Kd.V_mono (ok' := (fun k_ => ((fun k_ => (w.heap.size ≤ k_) ∧ some k_ ≠ (u215000 : Value).ownBlock ∧ k_ ≠ gb204 ∧ k_ ≠ gb214 ∧ k_ ≠ g)) k_ ∧ k_ ≠ go82)) (HO253.out) (fun k_ hk => ⟨⟨hk.1.1, ⟨hk.1.2.1, ⟨hk.1.2.2.1, ⟨hk.1.2.2.2.1, hk.1.2.2.2.2⟩⟩⟩⟩, fun e_ => (hk.2) (by rw [e_]; rfl)⟩)))) (fun _ hk => hk)).1
                     rw [← Ny254.out] at HP86
                     have HQ86 := Aside0.mk HP86
                     clear hcl86 hcc86 hfr86 hM86 HP86
                     refine start_ (n := 11) (S := fun w' => w'.cell? ⟨gb214, 0, none⟩ = some (u215000) ∧ w'.cell? ⟨gb214, 1, none⟩ = some (.slice (some ⟨go82, 0, none⟩) x215001_59.length co84) ∧ w'.cell? ⟨go82, 0, none⟩ = some (.int .i64 ((rd_T62 x215001_59 0).f0)) ∧ w'.cell? ⟨go82, 1, none⟩ = some (.slice A248_1 ((rd_T62 x215001_59 0).f1).length c248_1)) (ds := [10]) #[false, false, false, false, false, false, false, false, false, false, false] (by kernel_rfl) rfl rfl ⟨(blk_cell BK214.out 0).trans rfl, (blk_cell BK214.out 1).trans rfl, hx248_0, hx248_1⟩ (fun hHeld => ?_); refine with_tabW spec_l1DrawDisk.tab21 spec_l1DrawDisk.bits21 (fun HT_ HW_ => ?_)
                     generalize wc.drew = w83 at HO_215000 HO_215001 BK204 BK214 HI0 HK HB GG82 HL248_1 HO253 HQ86 HR248_1 hf82_0 hf82_1 hx248_0 hx248_1 hx82_0 hx82_1 hHeld ⊢
                     refine Rgn.pu HT_.out 0 90 ?_
                     refine Rgn.pu HT_.out 2 92 ?_
                     refine Rgn.tk HT_.out HW_.out 1 91 hHeld ?_
                     refine Rgn.tk HT_.out HW_.out 3 93 hHeld ?_
                     refine Rgn.pu HT_.out 4 94 ?_
                     refine Rgn.pu HT_.out 5 95 ?_
                     refine Rgn.tk HT_.out HW_.out 6 96 hHeld ?_
                     refine Rgn.pu HT_.out 7 97 ?_
                     refine Rgn.pu HT_.out 8 98 ?_
                     refine Rgn.pu HT_.out 9 99 ?_
                     refine last_ (i := 10) (N := none) #[true, true, true, true, true, true, true, true, true, true, true] rfl rfl (one_of HT_.out (by kernel_rfl)) (by decide) (fun K hK => ?_)
                     refine skip_ (w1 := ?_) (by rfl) rfl ?_ ?_
                     rotate_left
                     ·
                      go_simp
                      rfl
                     refine hK.out _ _ ?_
                     clear hK K
                     refine done_ (done_of HT_.out (by kernel_rfl)) ?_
                     try go_wp2
                     go_meet
                     case rel => exact ⟨_, (y254), (.slice (some ⟨go82, 0, none⟩) x215001_59.length co84), H', ⟨by have := HK1.out; have := HJ26.out; have := HK3.out; have := HJ44.out; have := HJ53.out; have := HJ59.out; have := HJ71.out; first | omega | exact Nat.le_refl _⟩, ⟨by (with_reducible repeat (first | apply Kd.R_alloc | apply Kd.R_drewN | apply Kd.R_drew)); exact Kd.R_mono (Kd.R_far (p := ⟨go82, 1, none⟩) (Kd.R_types HO_215000.out GG82.out (by decide)) (fun _ hk => hk.2) (.slice A85 y249.length c85)) (fun _ hk => hk.1)⟩, ⟨by (with_reducible repeat (first | apply Kd.N_alloc | apply Kd.N_drewN | apply Kd.N_drew)); exact HQ86.out⟩, ⟨by (with_reducible repeat (first | refine blk_drewN ?_ _ | refine blk_drew ?_ | refine blk_alloc ?_ _)); refine blk_far ?_ (by have h_ := Kd.N_away HO_215001.out (fun _ hk => hk.2.2.1); intro e_; exact h_ (by rw [e_]; rfl)) _; (with_reducible repeat (first | refine blk_drewN ?_ _ | refine blk_drew ?_ | refine blk_alloc ?_ _)); exact BK204.out⟩, ⟨by (with_reducible repeat (first | refine blk_drewN ?_ _ | refine blk_drew ?_ | refine blk_alloc ?_ _)); refine blk_far ?_ (by have h_ := Kd.N_away HO_215001.out (fun _ hk => hk.2.2.2.1); intro e_; exact h_ (by rw [e_]; rfl)) _; (with_reducible repeat (first | refine blk_drewN ?_ _ | refine blk_drew ?_ | refine blk_alloc ?_ _)); exact BK214.out⟩, ⟨IsS90.q HI0.out⟩, ⟨by repeat (first | (with_reducible first | exact HK.out | apply KeepBut.set_ | apply keep_drewN | apply keep_drew | apply keep_alloc | refine keep_far ?_ GB82.out _ | refine keep_far ?_ GW204.out _ | refine keep_far ?_ GW214.out _) | exact HK.out)⟩, ⟨by repeat (first | (with_reducible first | exact HB.out | apply below_alloc | apply pw_below_drewN | apply below_drew1 | refine below_set ?_ (Nat.le_trans HL.out GB82.out) | refine below_set ?_ (IsS90.ge HI0.out) | refine below_set ?_ GE204.out | refine below_set ?_ GE214.out) | exact HB.out)⟩⟩
                    ·
                     rw [if_neg c81] at H
                     exact absurd H (by simp)
                   ·
                    rw [if_neg c80] at H
                    exact absurd H (by simp)
                  ·
                   replace c79 := Bool.eq_false_iff.mpr c79
                   subst c79
                   have H1 : (spec_l1DrawDisk.j7 kj71 t224 s0_0 x1001_3 x1002_3 x215000_44 x215001_59) = some (r1, r2, r3, r4) := by rw [if_neg (show ¬ (false = true) by decide)] at H; exact H
                   clear H
                   have H := H1
                   clear H1
                   have H' := Aside0.mk H
                   clear H
                   go_wp2
                   go_meet
                   case rel => exact ⟨_, (x215001_59), (u215001), H', ⟨by have := HK1.out; have := HJ26.out; have := HK3.out; have := HJ44.out; have := HJ53.out; have := HJ59.out; have := HJ71.out; first | omega | exact Nat.le_refl _⟩, ⟨Rgn.rq HO_215000.out⟩, ⟨by (with_reducible repeat (first | apply Kd.N_alloc | apply Kd.N_drewN | apply Kd.N_drew)); exact HO_215001.out⟩, ⟨Rgn.kb BK204.out⟩, ⟨Rgn.kb BK214.out⟩, ⟨IsS90.q HI0.out⟩, ⟨Rgn.kbq HK.out⟩, ⟨Rgn.bs HB.out (IsS90.ge HI0.out)⟩⟩
                 case rest =>
                  clear HC78
                  try clear c1
                  try clear c2
                  try clear p2
                  try clear q2
                  try clear hx2
                  try clear qi2
                  try clear c3
                  try clear c4
                  try clear c5
                  try clear c6
                  try clear p6
                  try clear q6
                  try clear hx6
                  try clear hf6
                  try clear c7
                  try clear hx7
                  try clear hf7
                  try clear c8
                  try clear p8
                  try clear q8
                  try clear hx8
                  try clear qi8
                  try clear hf8
                  try clear c9
                  try clear c10
                  try clear c13
                  try clear c13b0
                  try clear c15
                  try clear c20
                  try clear c24
                  try clear p24
                  try clear q24
                  try clear hx24
                  try clear qi24
                  try clear c31
                  try clear c31b0
                  try clear c31b1
                  try clear c34
                  try clear c34b0
                  try clear c37
                  try clear c46
                  try clear c46b0
                  try clear c46b1
                  try clear c47
                  try clear c48
                  try clear c49
                  try clear c55
                  try clear c55b0
                  try clear c55b1
                  try clear c56
                  try clear c57
                  try clear c61
                  try clear c63
                  try clear c63b0
                  try clear c64
                  try clear c64b0
                  try clear p64
                  try clear c65
                  try clear p65
                  try clear q65
                  try clear hx65
                  try clear hf65
                  try clear c66
                  try clear c67
                  try clear c70
                  try clear hx70
                  try clear hf70
                  try clear c73
                  try clear c73b0
                  try clear c73b1
                  try clear c74
                  try clear c75
                  try clear c79
                  try clear c80
                  try clear c80b0
                  try clear c80b1
                  try clear c81
                  try clear c81b0
                  try clear c81b1
                  try clear c82
                  try clear p82
                  try clear q82
                  try clear hx82
                  try clear qi82
                  try clear hf82
                  try clear c85
                  try clear q85
                  try clear c86
                  try clear hcz11_0 hcz11_1
                  try clear hcz29_0 hcz29_1 hcz29_2
                  try clear hcz50_0 hcz50_1
                  try clear hcz53_0 hcz53_1
                  try clear hcz58_0 hcz58_1
                  try clear hcz68_0 hcz68_1
                  try clear hcz76_0 hcz76_1
                  try clear hfz11_0 hfz11_1
                  try clear hfz29_1 hfz29_2
                  try clear hfz50_0 hfz50_1
                  try clear hfz53_0 hfz53_1
                  try clear hfz58_0 hfz58_1
                  try clear hfz68_0 hfz68_1
                  try clear hfz76_0 hfz76_1
                  try clear hx248_0
                  try clear hx248_1
                  try clear hx65_0
                  try clear hx65_1
                  try clear hx70_0
                  try clear hx82_0
                  try clear hx82_1
                  try clear p2
                  try clear p248
                  try clear p6
                  try clear p64
                  try clear p65
                  try clear p82
                  try clear q248
                  try clear q6
                  try clear q65
                  try clear q82
                  try clear q85
                  obtain ⟨kq, x215001_77, u215001, HA, HJ77, HO_215000, HO_215001, BK204, BK214, HI0, HK, HB⟩ := hcut
                  cases kq with
                  | zero => exact absurd HA.out (by simp [spec_l1DrawDisk.j7])
                  | succ kj77 =>
                   have H := HA.out
                   clear HA
                   simp only [spec_l1DrawDisk.j7] at H
                   by_cases c87 : t224 = 4
                   ·
                    rw [if_pos c87] at H
                    have c87b0 : (t224 == 4) = true := beq_iff_eq.mpr c87
                    have c87b1 : (t224 != 4) = false := bne_eq_false_iff_eq.mpr c87
                    clear c87
                    obtain ⟨y255, hy255⟩ : ∃ y_ : List Int, y_ = (([] : List Int)) := ⟨_, rfl⟩
                    replace H : (if t224 = 5 then ((spec_l1Next.f s0_0 x1001_3 x1002_3 2).bind fun bt258 => (if 0 ≤ (wrap64 ((wrap64 (2048 + bt258.1)) * 64)) then (if (wrap64 ((wrap64 (2048 + bt258.1)) * 64) : Int).toNat ≤ 281474976710656 then (some ((List.replicate (wrap64 ((wrap64 (2048 + bt258.1)) * 64) : Int).toNat 0), x215001_77, bt258.2.1, bt258.2.2)) else (none)) else (none))) else (some (y255, x215001_77, x1001_3, x1002_3))) = some (r1, r2, r3, r4) := by first | (rw [hy255]; with_reducible exact H) | (have H2_ := (Option.bind_some _ _).symm.trans H; rw [hy255]; with_reducible exact H2_) | (have H2_ := (Option.bind_some _ _).symm.trans H; with_reducible exact H2_) | with_reducible exact H | (rw [hy255]; exact H) | exact H
                    have Ny255 := Aside0.mk hy255
                    clear hy255
                    by_cases c88 : t224 = 5
                    ·
                     rw [if_pos c88] at H
                     have c88b0 : (t224 == 5) = true := beq_iff_eq.mpr c88
                     have c88b1 : (t224 != 5) = false := bne_eq_false_iff_eq.mpr c88
                     clear c88
                     replace H := Option.bind_eq_some_iff.mp H
                     obtain ⟨⟨t258, t259, t260⟩, A890, H⟩ := H
                     replace H : (if 0 ≤ (wrap64 ((wrap64 (2048 + t258)) * 64)) then (if (wrap64 ((wrap64 (2048 + t258)) * 64) : Int).toNat ≤ 281474976710656 then (some ((List.replicate (wrap64 ((wrap64 (2048 + t258)) * 64) : Int).toNat 0), x215001_77, t259, t260)) else (none)) else (none)) = some (r1, r2, r3, r4) := H
                     have A89 := Aside0.mk A890
                     clear A890
                     obtain ⟨ji90, hji90⟩ : ∃ j_ : Int, (wrap64 ((wrap64 (2048 + t258)) * 64)) = j_ := ⟨_, rfl⟩
                     replace H : (if 0 ≤ (ji90) then (if (ji90 : Int).toNat ≤ 281474976710656 then (some ((List.replicate (ji90 : Int).toNat 0), x215001_77, t259, t260)) else (none)) else (none)) = some (r1, r2, r3, r4) := by first | (rw [hji90] at H; exact H) | (simp only [hji90] at H ⊢; exact H)
                     (try rw [hji90] at A89)
                     have hji90w : (IntKind.i64.wrap ((wrap64 (2048 + t258)) * 64)) = ji90 := (i64_w _).trans hji90
                     by_cases c91 : 0 ≤ (ji90)
                     ·
                      rw [if_pos c91] at H
                      have c91b0 := eq_true c91
                      have c91b1 : decide (0 ≤ (ji90)) = true := decide_eq_true c91
                      clear c91
                      by_cases c92 : (ji90 : Int).toNat ≤ 281474976710656
                      ·
                       rw [if_pos c92] at H
                       have c92b0 := eq_true c92
                       have c92b1 : decide ((ji90 : Int).toNat ≤ 281474976710656) = true := decide_eq_true c92
                       clear c92
                       obtain ⟨y261, hy261⟩ : ∃ y_ : List Int, y_ = (List.replicate (ji90 : Int).toNat 0) := ⟨_, rfl⟩
                       replace H : (some (y261, x215001_77, t259, t260)) = some (r1, r2, r3, r4) := by first | (rw [hy261]; with_reducible exact H) | (have H2_ := (Option.bind_some _ _).symm.trans H; rw [hy261]; with_reducible exact H2_) | (have H2_ := (Option.bind_some _ _).symm.trans H; with_reducible exact H2_) | with_reducible exact H | (rw [hy261]; exact H) | exact H
                       have Ny261 := Aside0.mk hy261
                       clear hy261
                       simp only [Option.some.injEq, Prod.mk.injEq] at H
                       obtain ⟨rfl, rfl, rfl, rfl⟩ := H
                       go_wp2_with (first | ((with_reducible refine gate_dst (N := 102) rfl ?_); (try (refine gate_guard (by rfl) ?_; dsimp only)); refine Kd.R_lit (Kd.int .u8) _ 5 ?hg (N := 102) ?hd (xs := ([] : List Int)) (inner := []) (ok := fun _ => True) (okp := fun _ => True) ?hr ?hp (fun _ hk => hk) trivial (Below.refl _ _) (Nat.le_refl _) (by simp) ?_; (case hd => rfl); (case hg => rfl); (case hr => first | (go_simp; done) | (go_simp; rfl)); (case hp => exact (Reps.none _ _)); intro v256 w93 ho94 hb hg_ hnew_; clear hg_ hnew_; (first | rw [← Ny255.out] at ho94 | (simp only [Int.reduceToNat] at ho94; rw [← Ny255.out] at ho94)); replace HO_215001 := Aside0.mk (Kd.N_elder' (Rgn.nq HO_215001.out) (Kd.R_base ho94) hb); have HO257 := Aside0.mk (Kd.R_lower (Kd.R_new' (Kd.R_newM (M := fun k_ => (w.heap.size ≤ k_)) ho94 (keep_size (w := w) (g := g) (row := none) (Rgn.kbq HK.out)) (fun k_ h_ => h_)) (Kd.R_lt (Rgn.rq HO_215000.out))) (keep_size (w := w) (g := g) (row := none) (Rgn.kbq HK.out))); replace HO_215000 := Aside0.mk (Kd.R_elder' (Rgn.rq HO_215000.out) (Kd.R_base ho94) hb); replace BK204 := Aside0.mk (Rgn.bb BK204.out hb); replace BK214 := Aside0.mk (Rgn.bb BK214.out hb); replace HK := Aside0.mk (KeepBut.trans (Rgn.kbq HK.out) (KeepBut.of_below hb g none) (.inl rfl)); replace HB := Aside0.mk (below_step (Rgn.bs HB.out (IsS90.ge HI0.out)) hb); replace HI0 := Aside0.mk (IsS90.below (IsS90.q HI0.out) hb); clear hb ho94; obtain ⟨Ao95, co95, eo95⟩ := Kd.R_slice HO257.out; subst eo95; have hnb96 := NB214_204.out; have hnc96 := NB204_214.out; have hnb97 := NB214_0.out; have hnc97 := NB0_214.out; obtain ⟨hcz98_0, hcz98_1, hfz98_0, hfz98_1⟩ := Rgn.c2 BK214.out) | ((with_reducible refine gate_callee (f := 82) rfl ?_); refine Rgn.gl (some 107) Try.func82 #[.pointer (some ⟨g, 0, none⟩), .int .i64 2] ?_; (with_reducible refine (spec_l1Next.calls g s0_0 x1001_3 x1002_3 2 t258 t259 t260 w0 _ ?side1 ?side2 A89.out).mono ?_); (case side1 => repeat (first | (with_reducible first | exact HI0.out | apply IsS90.alloc | apply IsS90.drewN | apply IsS90.drew | apply IsS90.set_1 | apply IsS90.set_2 | refine IsS90.far ?_ NB0_204.out _ | refine IsS90.far ?_ NB0_214.out _) | exact HI0.out)); (case side2 => repeat (first | (with_reducible first | exact HB.out | apply below_alloc | apply pw_below_drewN | apply below_drew1 | refine below_set ?_ (IsS90.ge HI0.out) | refine below_set ?_ GE204.out | refine below_set ?_ GE214.out) | exact HB.out)); rintro e w99 ⟨rfl, hi, hb, hk⟩; refine ⟨_, rfl, ?_⟩; replace HO_215000 := Aside0.mk (Kd.R_mono (Kd.R_keep (IsS90.apart (show IsS90 w0 _ g s0_0 x1001_3 x1002_3 from IsS90.q HI0.out) (Rgn.rq (Kd.R_mono (Kd.R_far (p := ⟨gb214, 0, none⟩) (Kd.R_types HO_215000.out BK214.out (by decide)) (fun _ hk => hk.2) (.slice Ao95 y255.length co95)) (fun _ h_ => h_.1))) (by decide)) hk (fun _ h => h.2)) (fun _ h => h.1)); replace HO_215001 := Aside0.mk (Kd.N_mono (Kd.N_keep (Kd.N_mono (ok := fun k_ => ((((w.heap.size ≤ k_)) ∧ (some k_ ≠ (u215000 : Value).ownBlock ∧ (k_ ≠ gb204 ∧ (k_ ≠ gb214 ∧ k_ ≠ g)))) ∧ some k_ ≠ (.slice Ao95 y255.length co95 : Value).ownBlock)) (Rgn.nq (Kd.N_mono (Kd.N_far (p := ⟨gb214, 0, none⟩) (Kd.N_mono HO_215001.out (fun k_ hk => (⟨hk, hk.1.2.2.2.1⟩ : _ ∧ k_ ≠ gb214))) (fun _ hk => hk.2) (.slice Ao95 y255.length co95)) (fun _ h_ => h_.1))) (fun k_ hk_ => (⟨hk_, hk_.1.2.2.2.2⟩ : _ ∧ k_ ≠ g))) hk (fun _ h => h.2)) (fun _ h => h.1)); replace BK204 := Aside0.mk (Rgn.kb2 hk BK204.out NB204_0.out); replace HO257 := Aside0.mk (Kd.R_mono (Kd.R_keep (IsS90.apart (show IsS90 w0 _ g s0_0 x1001_3 x1002_3 from IsS90.q HI0.out) (Rgn.rq (Kd.R_mono (Kd.R_far (p := ⟨gb214, 0, none⟩) (Kd.R_types HO257.out BK214.out (by decide)) (fun _ hk => hk.2) (.slice Ao95 y255.length co95)) (fun _ h_ => h_.1))) (by decide)) hk (fun _ h => h.2)) (fun _ h => h.1)); replace BK214 := Aside0.mk (KeepBut.blk hk (g' := gb214) (o := .cells #[.slice Ao95 y255.length co95, u215001] 29 (0, 0)) (by (with_reducible repeat (first | refine blk_drewN ?_ _ | refine blk_drew ?_ | refine blk_alloc ?_ _)); refine blk_put (cs := #[u215000, u215001]) ?_ 0 _ rfl; (with_reducible repeat (first | refine blk_drewN ?_ _ | refine blk_drew ?_ | refine blk_alloc ?_ _)); exact BK214.out) NB214_0.out (by simp)); replace HK := Aside0.mk (KeepBut.trans (Rgn.kbq HK.out) hk (.inl rfl)); replace HB := Aside0.mk (hb); replace HI0 := Aside0.mk (hi); (try clear hb); (try clear hk); (try clear hi)) | ((with_reducible refine gate_dst (N := 110) rfl ?_); (try (refine gate_guard (by rfl) ?_; dsimp only)); refine Kd.R_make (Kd.int .u8) _ 5 rfl (N := 110) rfl 22 _ _ rfl ji90 rfl rfl Try.underlying22 (.int .u8 0) 1 info5 rfl (by decide) (by omega) 0 (ok := fun _ => True) (okp := fun _ => True) rfl (fun _ hk => hk) trivial (of_decide_eq_true (by first | (with_reducible assumption) | assumption)) (Nat.le_trans (Nat.mul_le_mul_right _ (of_decide_eq_true (by first | (with_reducible assumption) | assumption) : ji90.toNat ≤ 281474976710656)) (by omega)) (Below.refl _ _) (Nat.le_refl _) ?_; intro v262 w100 ho101 hb hg_ hnew_; clear hg_ hnew_; (first | rw [← Ny261.out] at ho101 | (simp only [Int.reduceToNat] at ho101; rw [← Ny261.out] at ho101)); replace HO_215001 := Aside0.mk (Kd.N_elder' (Rgn.nq HO_215001.out) (Kd.R_base ho101) hb); have HO263 := Aside0.mk (Kd.R_lower (Kd.R_new' (Kd.R_new' (Kd.R_newM (M := fun k_ => (w.heap.size ≤ k_)) ho101 (keep_size (w := w) (g := g) (row := none) (Rgn.kbq HK.out)) (fun k_ h_ => h_)) (Kd.R_lt (Rgn.rq HO_215000.out))) (Kd.R_lt (Rgn.rq HO257.out))) (keep_size (w := w) (g := g) (row := none) (Rgn.kbq HK.out))); replace HO_215000 := Aside0.mk (Kd.R_elder' (Rgn.rq HO_215000.out) (Kd.R_base ho101) hb); replace HO257 := Aside0.mk (Kd.R_elder' (Rgn.rq HO257.out) (Kd.R_base ho101) hb); replace BK204 := Aside0.mk (Rgn.bb BK204.out hb); replace BK214 := Aside0.mk (Rgn.bb BK214.out hb); replace HK := Aside0.mk (KeepBut.trans (Rgn.kbq HK.out) (KeepBut.of_below hb g none) (.inl rfl)); replace HB := Aside0.mk (below_step (Rgn.bs HB.out (IsS90.ge HI0.out)) hb); replace HI0 := Aside0.mk (IsS90.below (IsS90.q HI0.out) hb); clear hb ho101; obtain ⟨Ao102, co102, eo102⟩ := Kd.R_slice HO263.out; subst eo102; obtain ⟨hcz103_0, hcz103_1, hfz103_0, hfz103_1⟩ := Rgn.c2 BK214.out; have hnb104 := NB204_0.out; have hnc104 := NB0_204.out; obtain ⟨hcz105_0, hcz105_1, hfz105_0, hfz105_1⟩ := Rgn.c2 BK204.out; obtain ⟨Ao106, co106, eo106⟩ := Kd.N_slice HO_215001.out; subst eo106))
                       refine bodyPost_ret (results_cell_row rfl _ _ gb204 29 #[.slice Ao102 y261.length co102, .slice Ao106 x215001_77.length co106] (0, 0) _ rfl (by (with_reducible repeat (first | refine blk_drewN ?_ _ | refine blk_drew ?_ | refine blk_alloc ?_ _)); refine blk_put (cs := #[.slice Ao102 y261.length co102, .slice none 0 0]) ?_ 1 _ rfl; (with_reducible repeat (first | refine blk_drewN ?_ _ | refine blk_drew ?_ | refine blk_alloc ?_ _)); refine blk_put (cs := #[.slice none 0 0, .slice none 0 0]) ?_ 0 _ rfl; (with_reducible repeat (first | refine blk_drewN ?_ _ | refine blk_drew ?_ | refine blk_alloc ?_ _)); refine blk_far ?_ NB204_214.out _; (with_reducible repeat (first | refine blk_drewN ?_ _ | refine blk_drew ?_ | refine blk_alloc ?_ _)); exact BK204.out) Try.underlying29 rfl (by kernel_rfl)) rfl ?_
                       exact ⟨_, _, by first | rfl | (simp [errW_none, errW_some] <;> rfl) | (simp only [← hji90]; first | rfl | (simp [errW_none, errW_some] <;> rfl)) | (simp [*, errW_none, errW_some] <;> rfl), by (with_reducible repeat (first | apply Kd.R_alloc | apply Kd.R_drewN | apply Kd.R_drew)); exact Kd.R_mono (Kd.R_far (p := ⟨gb204, 1, none⟩) (Kd.R_far (p := ⟨gb204, 0, none⟩) (Kd.R_far (p := ⟨gb214, 0, none⟩) (Kd.R_types (Kd.R_types HO263.out BK214.out (by decide)) BK204.out (by decide)) (fun _ hk => hk.1.2) (.slice Ao102 y261.length co102)) (fun _ hk => hk.2) (.slice Ao102 y261.length co102)) (fun _ hk => hk.2) (.slice Ao106 x215001_77.length co106)) (fun _ hk => hk.1.1.1.1.1), by (with_reducible repeat (first | apply Kd.N_alloc | apply Kd.N_drewN | apply Kd.N_drew)); exact Kd.N_mono (Kd.N_far (p := ⟨gb204, 1, none⟩) (Kd.N_far (p := ⟨gb204, 0, none⟩) (Kd.N_far (p := ⟨gb214, 0, none⟩) (Kd.N_mono (Kd.N_mono HO_215001.out (fun k_ hk => (⟨hk, hk.1.1.2.2.2.1⟩ : _ ∧ k_ ≠ gb214))) (fun k_ hk => (⟨hk, hk.1.1.1.2.2.1⟩ : _ ∧ k_ ≠ gb204))) (fun _ hk => hk.1.2) (.slice Ao102 y261.length co102)) (fun _ hk => hk.2) (.slice Ao102 y261.length co102)) (fun _ hk => hk.2) (.slice Ao106 x215001_77.length co106)) (fun _ hk => ⟨hk.1.1.1.1.1, hk.1.1.2⟩), IsS90.q HI0.out, Rgn.bs HB.out (IsS90.ge HI0.out), Rgn.kbq HK.out⟩
                      ·
                       rw [if_neg c92] at H
                       exact absurd H (by simp)
                     ·
                      rw [if_neg c91] at H
                      exact absurd H (by simp)
                    ·
                     rw [if_neg c88] at H
                     have c88b0 : (t224 == 5) = false := beq_eq_false_iff_ne.mpr c88
                     have c88b1 : (t224 != 5) = true := bne_iff_ne.mpr c88
                     simp only [Option.some.injEq, Prod.mk.injEq] at H
                     obtain ⟨rfl, rfl, rfl, rfl⟩ := H
                     go_wp2_with (first | ((with_reducible refine gate_dst (N := 102) rfl ?_); (try (refine gate_guard (by rfl) ?_; dsimp only)); refine Kd.R_lit (Kd.int .u8) _ 5 ?hg (N := 102) ?hd (xs := ([] : List Int)) (inner := []) (ok := fun _ => True) (okp := fun _ => True) ?hr ?hp (fun _ hk => hk) trivial (Below.refl _ _) (Nat.le_refl _) (by simp) ?_; (case hd => rfl); (case hg => rfl); (case hr => first | (go_simp; done) | (go_simp; rfl)); (case hp => exact (Reps.none _ _)); intro v256 w107 ho108 hb hg_ hnew_; clear hg_ hnew_; (first | rw [← Ny255.out] at ho108 | (simp only [Int.reduceToNat] at ho108; rw [← Ny255.out] at ho108)); replace HO_215001 := Aside0.mk (Kd.N_elder' (Rgn.nq HO_215001.out) (Kd.R_base ho108) hb); have HO257 := Aside0.mk (Kd.R_lower (Kd.R_new' (Kd.R_newM (M := fun k_ => (w.heap.size ≤ k_)) ho108 (keep_size (w := w) (g := g) (row := none) (Rgn.kbq HK.out)) (fun k_ h_ => h_)) (Kd.R_lt (Rgn.rq HO_215000.out))) (keep_size (w := w) (g := g) (row := none) (Rgn.kbq HK.out))); replace HO_215000 := Aside0.mk (Kd.R_elder' (Rgn.rq HO_215000.out) (Kd.R_base ho108) hb); replace BK204 := Aside0.mk (Rgn.bb BK204.out hb); replace BK214 := Aside0.mk (Rgn.bb BK214.out hb); replace HK := Aside0.mk (KeepBut.trans (Rgn.kbq HK.out) (KeepBut.of_below hb g none) (.inl rfl)); replace HB := Aside0.mk (below_step (Rgn.bs HB.out (IsS90.ge HI0.out)) hb); replace HI0 := Aside0.mk (IsS90.below (IsS90.q HI0.out) hb); clear hb ho108; obtain ⟨Ao109, co109, eo109⟩ := Kd.R_slice HO257.out; subst eo109; have hnb110 := NB214_204.out; have hnc110 := NB204_214.out; have hnb111 := NB214_0.out; have hnc111 := NB0_214.out; obtain ⟨hcz112_0, hcz112_1, hfz112_0, hfz112_1⟩ := Rgn.c2 BK214.out; have hnb113 := NB204_0.out; have hnc113 := NB0_204.out; obtain ⟨hcz114_0, hcz114_1, hfz114_0, hfz114_1⟩ := Rgn.c2 BK204.out; obtain ⟨Ao115, co115, eo115⟩ := Kd.N_slice HO_215001.out; subst eo115))
                     refine bodyPost_ret (results_cell_row rfl _ _ gb204 29 #[.slice Ao109 y255.length co109, .slice Ao115 x215001_77.length co115] (0, 0) _ rfl (by (with_reducible repeat (first | refine blk_drewN ?_ _ | refine blk_drew ?_ | refine blk_alloc ?_ _)); refine blk_put (cs := #[.slice Ao109 y255.length co109, .slice none 0 0]) ?_ 1 _ rfl; (with_reducible repeat (first | refine blk_drewN ?_ _ | refine blk_drew ?_ | refine blk_alloc ?_ _)); refine blk_put (cs := #[.slice none 0 0, .slice none 0 0]) ?_ 0 _ rfl; (with_reducible repeat (first | refine blk_drewN ?_ _ | refine blk_drew ?_ | refine blk_alloc ?_ _)); refine blk_far ?_ NB204_214.out _; (with_reducible repeat (first | refine blk_drewN ?_ _ | refine blk_drew ?_ | refine blk_alloc ?_ _)); exact BK204.out) Try.underlying29 rfl (by kernel_rfl)) rfl ?_
                     exact ⟨_, _, by first | rfl | (simp [errW_none, errW_some] <;> rfl) | (simp [*, errW_none, errW_some] <;> rfl), by (with_reducible repeat (first | apply Kd.R_alloc | apply Kd.R_drewN | apply Kd.R_drew)); exact Kd.R_mono (Kd.R_far (p := ⟨gb204, 1, none⟩) (Kd.R_far (p := ⟨gb204, 0, none⟩) (Kd.R_far (p := ⟨gb214, 0, none⟩) (Kd.R_types (Kd.R_types HO257.out BK214.out (by decide)) BK204.out (by decide)) (fun _ hk => hk.1.2) (.slice Ao109 y255.length co109)) (fun _ hk => hk.2) (.slice Ao109 y255.length co109)) (fun _ hk => hk.2) (.slice Ao115 x215001_77.length co115)) (fun _ hk => hk.1.1.1.1), by (with_reducible repeat (first | apply Kd.N_alloc | apply Kd.N_drewN | apply Kd.N_drew)); exact Kd.N_mono (Kd.N_far (p := ⟨gb204, 1, none⟩) (Kd.N_far (p := ⟨gb204, 0, none⟩) (Kd.N_far (p := ⟨gb214, 0, none⟩) (Kd.N_mono (Kd.N_mono HO_215001.out (fun k_ hk => (⟨hk, hk.1.2.2.2.1⟩ : _ ∧ k_ ≠ gb214))) (fun k_ hk => (⟨hk, hk.1.1.2.2.1⟩ : _ ∧ k_ ≠ gb204))) (fun _ hk => hk.1.2) (.slice Ao109 y255.length co109)) (fun _ hk => hk.2) (.slice Ao109 y255.length co109)) (fun _ hk => hk.2) (.slice Ao115 x215001_77.length co115)) (fun _ hk => ⟨hk.1.1.1.1, hk.1.1.2⟩), IsS90.q HI0.out, Rgn.bs HB.out (IsS90.ge HI0.out), Rgn.kbq HK.out⟩
                   ·
                    rw [if_neg c87] at H
                    have c87b0 : (t224 == 4) = false := beq_eq_false_iff_ne.mpr c87
                    have c87b1 : (t224 != 4) = true := bne_iff_ne.mpr c87
                    by_cases c116 : t224 = 5
                    ·
                     rw [if_pos c116] at H
                     have c116b0 : (t224 == 5) = true := beq_iff_eq.mpr c116
                     have c116b1 : (t224 != 5) = false := bne_eq_false_iff_eq.mpr c116
                     clear c116
                     replace H := Option.bind_eq_some_iff.mp H
                     obtain ⟨⟨t264, t265, t266⟩, A1170, H⟩ := H
                     replace H : (if 0 ≤ (wrap64 ((wrap64 (2048 + t264)) * 64)) then (if (wrap64 ((wrap64 (2048 + t264)) * 64) : Int).toNat ≤ 281474976710656 then (some ((List.replicate (wrap64 ((wrap64 (2048 + t264)) * 64) : Int).toNat 0), x215001_77, t265, t266)) else (none)) else (none)) = some (r1, r2, r3, r4) := H
                     have A117 := Aside0.mk A1170
                     clear A1170
                     obtain ⟨ji118, hji118⟩ : ∃ j_ : Int, (wrap64 ((wrap64 (2048 + t264)) * 64)) = j_ := ⟨_, rfl⟩
                     replace H : (if 0 ≤ (ji118) then (if (ji118 : Int).toNat ≤ 281474976710656 then (some ((List.replicate (ji118 : Int).toNat 0), x215001_77, t265, t266)) else (none)) else (none)) = some (r1, r2, r3, r4) := by first | (rw [hji118] at H; exact H) | (simp only [hji118] at H ⊢; exact H)
                     (try rw [hji118] at A117)
                     have hji118w : (IntKind.i64.wrap ((wrap64 (2048 + t264)) * 64)) = ji118 := (i64_w _).trans hji118
                     by_cases c119 : 0 ≤ (ji118)
                     ·
                      rw [if_pos c119] at H
                      have c119b0 := eq_true c119
                      have c119b1 : decide (0 ≤ (ji118)) = true := decide_eq_true c119
                      clear c119
                      by_cases c120 : (ji118 : Int).toNat ≤ 281474976710656
                      ·
                       rw [if_pos c120] at H
                       have c120b0 := eq_true c120
                       have c120b1 : decide ((ji118 : Int).toNat ≤ 281474976710656) = true := decide_eq_true c120
                       clear c120
                       obtain ⟨y267, hy267⟩ : ∃ y_ : List Int, y_ = (List.replicate (ji118 : Int).toNat 0) := ⟨_, rfl⟩
                       replace H : (some (y267, x215001_77, t265, t266)) = some (r1, r2, r3, r4) := by first | (rw [hy267]; with_reducible exact H) | (have H2_ := (Option.bind_some _ _).symm.trans H; rw [hy267]; with_reducible exact H2_) | (have H2_ := (Option.bind_some _ _).symm.trans H; with_reducible exact H2_) | with_reducible exact H | (rw [hy267]; exact H) | exact H
                       have Ny267 := Aside0.mk hy267
                       clear hy267
                       simp only [Option.some.injEq, Prod.mk.injEq] at H
                       obtain ⟨rfl, rfl, rfl, rfl⟩ := H
                       go_wp2_with (first | ((with_reducible refine gate_callee (f := 82) rfl ?_); refine Rgn.gl (some 107) Try.func82 #[.pointer (some ⟨g, 0, none⟩), .int .i64 2] ?_; (with_reducible refine (spec_l1Next.calls g s0_0 x1001_3 x1002_3 2 t264 t265 t266 w0 _ ?side1 ?side2 A117.out).mono ?_); (case side1 => repeat (first | (with_reducible first | exact HI0.out | apply IsS90.alloc | apply IsS90.drewN | apply IsS90.drew | apply IsS90.set_1 | apply IsS90.set_2 | refine IsS90.far ?_ NB0_204.out _ | refine IsS90.far ?_ NB0_214.out _) | exact HI0.out)); (case side2 => repeat (first | (with_reducible first | exact HB.out | apply below_alloc | apply pw_below_drewN | apply below_drew1 | refine below_set ?_ (IsS90.ge HI0.out) | refine below_set ?_ GE204.out | refine below_set ?_ GE214.out) | exact HB.out)); rintro e w121 ⟨rfl, hi, hb, hk⟩; refine ⟨_, rfl, ?_⟩; replace HO_215000 := Aside0.mk (Kd.R_mono (Kd.R_keep (IsS90.apart (show IsS90 w0 _ g s0_0 x1001_3 x1002_3 from IsS90.q HI0.out) (Rgn.rq HO_215000.out) (by decide)) hk (fun _ h => h.2)) (fun _ h => h.1)); replace HO_215001 := Aside0.mk (Kd.N_mono (Kd.N_keep (Kd.N_mono (ok := fun k_ => (((w.heap.size ≤ k_)) ∧ (some k_ ≠ (u215000 : Value).ownBlock ∧ (k_ ≠ gb204 ∧ (k_ ≠ gb214 ∧ k_ ≠ g))))) (Rgn.nq HO_215001.out) (fun k_ hk_ => (⟨hk_, hk_.2.2.2.2⟩ : _ ∧ k_ ≠ g))) hk (fun _ h => h.2)) (fun _ h => h.1)); replace BK204 := Aside0.mk (Rgn.kb2 hk BK204.out NB204_0.out); replace BK214 := Aside0.mk (Rgn.kb2 hk BK214.out NB214_0.out); replace HK := Aside0.mk (KeepBut.trans (Rgn.kbq HK.out) hk (.inl rfl)); replace HB := Aside0.mk (hb); replace HI0 := Aside0.mk (hi); (try clear hb); (try clear hk); (try clear hi)) | ((with_reducible refine gate_dst (N := 110) rfl ?_); (try (refine gate_guard (by rfl) ?_; dsimp only)); refine Kd.R_make (Kd.int .u8) _ 5 rfl (N := 110) rfl 22 _ _ rfl ji118 rfl rfl Try.underlying22 (.int .u8 0) 1 info5 rfl (by decide) (by omega) 0 (ok := fun _ => True) (okp := fun _ => True) rfl (fun _ hk => hk) trivial (of_decide_eq_true (by first | (with_reducible assumption) | assumption)) (Nat.le_trans (Nat.mul_le_mul_right _ (of_decide_eq_true (by first | (with_reducible assumption) | assumption) : ji118.toNat ≤ 281474976710656)) (by omega)) (Below.refl _ _) (Nat.le_refl _) ?_; intro v268 w122 ho123 hb hg_ hnew_; clear hg_ hnew_; (first | rw [← Ny267.out] at ho123 | (simp only [Int.reduceToNat] at ho123; rw [← Ny267.out] at ho123)); replace HO_215001 := Aside0.mk (Kd.N_elder' (Rgn.nq HO_215001.out) (Kd.R_base ho123) hb); have HO269 := Aside0.mk (Kd.R_lower (Kd.R_new' (Kd.R_newM (M := fun k_ => (w.heap.size ≤ k_)) ho123 (keep_size (w := w) (g := g) (row := none) (Rgn.kbq HK.out)) (fun k_ h_ => h_)) (Kd.R_lt (Rgn.rq HO_215000.out))) (keep_size (w := w) (g := g) (row := none) (Rgn.kbq HK.out))); replace HO_215000 := Aside0.mk (Kd.R_elder' (Rgn.rq HO_215000.out) (Kd.R_base ho123) hb); replace BK204 := Aside0.mk (Rgn.bb BK204.out hb); replace BK214 := Aside0.mk (Rgn.bb BK214.out hb); replace HK := Aside0.mk (KeepBut.trans (Rgn.kbq HK.out) (KeepBut.of_below hb g none) (.inl rfl)); replace HB := Aside0.mk (below_step (Rgn.bs HB.out (IsS90.ge HI0.out)) hb); replace HI0 := Aside0.mk (IsS90.below (IsS90.q HI0.out) hb); clear hb ho123; obtain ⟨Ao124, co124, eo124⟩ := Kd.R_slice HO269.out; subst eo124; have hnb125 := NB214_204.out; have hnc125 := NB204_214.out; have hnb126 := NB214_0.out; have hnc126 := NB0_214.out; obtain ⟨hcz127_0, hcz127_1, hfz127_0, hfz127_1⟩ := Rgn.c2 BK214.out; have hnb128 := NB204_0.out; have hnc128 := NB0_204.out; obtain ⟨hcz129_0, hcz129_1, hfz129_0, hfz129_1⟩ := Rgn.c2 BK204.out; obtain ⟨Ao130, co130, eo130⟩ := Kd.N_slice HO_215001.out; subst eo130))
                       refine bodyPost_ret (results_cell_row rfl _ _ gb204 29 #[.slice Ao124 y267.length co124, .slice Ao130 x215001_77.length co130] (0, 0) _ rfl (by (with_reducible repeat (first | refine blk_drewN ?_ _ | refine blk_drew ?_ | refine blk_alloc ?_ _)); refine blk_put (cs := #[.slice Ao124 y267.length co124, .slice none 0 0]) ?_ 1 _ rfl; (with_reducible repeat (first | refine blk_drewN ?_ _ | refine blk_drew ?_ | refine blk_alloc ?_ _)); refine blk_put (cs := #[.slice none 0 0, .slice none 0 0]) ?_ 0 _ rfl; (with_reducible repeat (first | refine blk_drewN ?_ _ | refine blk_drew ?_ | refine blk_alloc ?_ _)); refine blk_far ?_ NB204_214.out _; (with_reducible repeat (first | refine blk_drewN ?_ _ | refine blk_drew ?_ | refine blk_alloc ?_ _)); exact BK204.out) Try.underlying29 rfl (by kernel_rfl)) rfl ?_
                       exact ⟨_, _, by first | rfl | (simp [errW_none, errW_some] <;> rfl) | (simp only [← hji118]; first | rfl | (simp [errW_none, errW_some] <;> rfl)) | (simp [*, errW_none, errW_some] <;> rfl), by (with_reducible repeat (first | apply Kd.R_alloc | apply Kd.R_drewN | apply Kd.R_drew)); exact Kd.R_mono (Kd.R_far (p := ⟨gb204, 1, none⟩) (Kd.R_far (p := ⟨gb204, 0, none⟩) (Kd.R_far (p := ⟨gb214, 0, none⟩) (Kd.R_types (Kd.R_types HO269.out BK214.out (by decide)) BK204.out (by decide)) (fun _ hk => hk.1.2) (.slice Ao124 y267.length co124)) (fun _ hk => hk.2) (.slice Ao124 y267.length co124)) (fun _ hk => hk.2) (.slice Ao130 x215001_77.length co130)) (fun _ hk => hk.1.1.1.1), by (with_reducible repeat (first | apply Kd.N_alloc | apply Kd.N_drewN | apply Kd.N_drew)); exact Kd.N_mono (Kd.N_far (p := ⟨gb204, 1, none⟩) (Kd.N_far (p := ⟨gb204, 0, none⟩) (Kd.N_far (p := ⟨gb214, 0, none⟩) (Kd.N_mono (Kd.N_mono HO_215001.out (fun k_ hk => (⟨hk, hk.1.2.2.2.1⟩ : _ ∧ k_ ≠ gb214))) (fun k_ hk => (⟨hk, hk.1.1.2.2.1⟩ : _ ∧ k_ ≠ gb204))) (fun _ hk => hk.1.2) (.slice Ao124 y267.length co124)) (fun _ hk => hk.2) (.slice Ao124 y267.length co124)) (fun _ hk => hk.2) (.slice Ao130 x215001_77.length co130)) (fun _ hk => ⟨hk.1.1.1.1, hk.1.1.2⟩), IsS90.q HI0.out, Rgn.bs HB.out (IsS90.ge HI0.out), Rgn.kbq HK.out⟩
                      ·
                       rw [if_neg c120] at H
                       exact absurd H (by simp)
                     ·
                      rw [if_neg c119] at H
                      exact absurd H (by simp)
                    ·
                     rw [if_neg c116] at H
                     have c116b0 : (t224 == 5) = false := beq_eq_false_iff_ne.mpr c116
                     have c116b1 : (t224 != 5) = true := bne_iff_ne.mpr c116
                     simp only [Option.some.injEq, Prod.mk.injEq] at H
                     obtain ⟨rfl, rfl, rfl, rfl⟩ := H
                     have hnb131 := NB214_204.out
                     have hnc131 := NB204_214.out
                     have hnb132 := NB214_0.out
                     have hnc132 := NB0_214.out
                     have hcz133_0 := Rgn.cz0 BK214.out
                     have hcz133_1 := Rgn.cz1 BK214.out
                     have hfz133_0 := blk_frozen BK214.out 0
                     have hfz133_1 := blk_frozen BK214.out 1
                     obtain ⟨Ao134, co134, eo134⟩ := Kd.R_slice HO_215000.out
                     subst eo134
                     have hnb135 := NB204_0.out
                     have hnc135 := NB0_204.out
                     have hcz136_0 := Rgn.cz0 BK204.out
                     have hcz136_1 := Rgn.cz1 BK204.out
                     have hfz136_0 := blk_frozen BK204.out 0
                     have hfz136_1 := blk_frozen BK204.out 1
                     obtain ⟨Ao137, co137, eo137⟩ := Kd.N_slice HO_215001.out
                     subst eo137
                     go_wp2
                     refine bodyPost_ret (results_cell_row rfl _ _ gb204 29 #[.slice Ao134 x215000_44.length co134, .slice Ao137 x215001_77.length co137] (0, 0) _ rfl (by (with_reducible repeat (first | refine blk_drewN ?_ _ | refine blk_drew ?_ | refine blk_alloc ?_ _)); refine blk_put (cs := #[.slice Ao134 x215000_44.length co134, .slice none 0 0]) ?_ 1 _ rfl; (with_reducible repeat (first | refine blk_drewN ?_ _ | refine blk_drew ?_ | refine blk_alloc ?_ _)); refine blk_put (cs := #[.slice none 0 0, .slice none 0 0]) ?_ 0 _ rfl; (with_reducible repeat (first | refine blk_drewN ?_ _ | refine blk_drew ?_ | refine blk_alloc ?_ _)); exact BK204.out) Try.underlying29 rfl (by kernel_rfl)) rfl ?_
                     exact ⟨_, _, by first | rfl | (simp [errW_none, errW_some] <;> rfl) | (simp [*, errW_none, errW_some] <;> rfl), by (with_reducible repeat (first | apply Kd.R_alloc | apply Kd.R_drewN | apply Kd.R_drew)); exact Kd.R_mono (Kd.R_far (p := ⟨gb204, 1, none⟩) (Kd.R_far (p := ⟨gb204, 0, none⟩) (Kd.R_types HO_215000.out BK204.out (by decide)) (fun _ hk => hk.2) (.slice Ao134 x215000_44.length co134)) (fun _ hk => hk.2) (.slice Ao137 x215001_77.length co137)) (fun _ hk => hk.1), by (with_reducible repeat (first | apply Kd.N_alloc | apply Kd.N_drewN | apply Kd.N_drew)); exact Kd.N_mono (Kd.N_far (p := ⟨gb204, 1, none⟩) (Kd.N_far (p := ⟨gb204, 0, none⟩) (Kd.N_mono HO_215001.out (fun k_ hk => (⟨hk, hk.2.2.1⟩ : _ ∧ k_ ≠ gb204))) (fun _ hk => hk.2) (.slice Ao134 x215000_44.length co134)) (fun _ hk => hk.2) (.slice Ao137 x215001_77.length co137)) (fun _ hk => ⟨hk.1.1, hk.1.2.1⟩), IsS90.q HI0.out, Rgn.bs HB.out (IsS90.ge HI0.out), Rgn.kbq HK.out⟩

end Go.Proofs.Ytdhjhadcadcceaa.PFnDisk
