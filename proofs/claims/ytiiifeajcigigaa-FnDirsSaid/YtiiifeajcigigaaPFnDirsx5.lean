-- written by a program of this session (wip/src/print2.py)
import Derived.Test.YtiiifeajcigigaaPFnDirsx0
import Derived.Test.YtiiifeajcigigaaPFnDirsx4
namespace Go.Proofs.Ytiiifeajcigigaa.PFnDirs
open Go.RowKit Go.Proofs.YtiiifeajcigigaaW.PrintWords Go.Proofs.YtiiifeajcigigaaW.PrintLast Go.Proofs.YtiiifeajcigigaaW.PrintMore
attribute [local go_sem] max2_int min2_int max_two min_two max_three min_three max_four min_four   -- for this text's walks alone
set_option linter.unusedVariables false
set_option linter.unusedSimpArgs false

/-! ### spec_l10DrawEntries: function 65 -/
mutual
def spec_l10DrawEntries.j0 : Nat → List (S27) → Int → List Int → Int → Int → Option ((List (S27)) × Int × Int)
  | 0, _, _, _, _, _ => none
  | k + 1, x3, x4, x1000, x1001, x1002 => spec_l10DrawEntries.l0 k x3 x4 0 x1000 x1001 x1002
def spec_l10DrawEntries.l0 : Nat → List (S27) → Int → Int → List Int → Int → Int → Option ((List (S27)) × Int × Int)
  | 0, _, _, _, _, _, _ => none
  | k + 1, x3, x4, x5, x1000, x1001, x1002 => if x5 < x4 then ((some (([(wrap64 (40 + (wrap64 (Int.tdiv x5 20)))) % 256, (wrap64 (60 + (Int.tmod x5 20))) % 256] : List Int) : List Int)).bind fun y252 => (if 1 + (strOfNums y252).size ≤ 9223372036854775807 then ((spec_l1Chance.f x1000 x1001 x1002 3).bind fun bt256 => (if bt256.1 = true then (if x4 < 20 then ((spec_l1Next.f x1000 bt256.2.1 bt256.2.2 9).bind fun bt259 => (if x3.length < 5864062014805 then (spec_l10DrawEntries.l0 k (x3 ++ [(⟨wrap64 (1 + bt259.1), strOfNums (([(wrap64 (97 + x5)) % 256] : List Int))⟩ : S27)]) x4 (wrap64 (x5 + 1)) x1000 bt259.2.1 bt259.2.2) else (none))) else (if x3.length < 5864062014805 then (spec_l10DrawEntries.l0 k (x3 ++ [(⟨wrap64 (1 + (Int.tmod x5 256)), (⟨#[110]⟩ : ByteArray) ++ (strOfNums y252)⟩ : S27)]) x4 (wrap64 (x5 + 1)) x1000 bt256.2.1 bt256.2.2) else (none))) else (if x3.length < 5864062014805 then (spec_l10DrawEntries.l0 k (x3 ++ [(⟨wrap64 (1 + (Int.tmod x5 256)), (⟨#[110]⟩ : ByteArray) ++ (strOfNums y252)⟩ : S27)]) x4 (wrap64 (x5 + 1)) x1000 bt256.2.1 bt256.2.2) else (none)))) else (none))) else (if x4 > 0 then ((spec_l1Chance.f x1000 x1001 x1002 6).bind fun bt274 => (spec_l10DrawEntries.j2 k x3 x4 bt274.1 x1000 bt274.2.1 bt274.2.2)) else (spec_l10DrawEntries.j2 k x3 x4 false x1000 x1001 x1002))
def spec_l10DrawEntries.j2 : Nat → List (S27) → Int → Bool → List Int → Int → Int → Option ((List (S27)) × Int × Int)
  | 0, _, _, _, _, _, _ => none
  | k + 1, x3, x4, x64, x1000, x1001, x1002 => if x64 = true then ((spec_l1Next.f x1000 x1001 x1002 x4).bind fun bt277 => ((spec_l10DrawEntry.f k x1000 bt277.2.1 bt277.2.2).bind fun bt280 => (if 0 ≤ bt277.1 then (if bt277.1 < (x3.length : Int) then ((some (x3.set (bt277.1 : Int).toNat (⟨bt280.1, bt280.2.1⟩ : S27) : List (S27))).bind fun y284 => (if x4 > 1 then ((spec_l1Chance.f x1000 bt280.2.2.1 bt280.2.2.2 10).bind fun bt285 => (if bt285.1 = true then (if 0 ≤ (wrap64 (x4 - 1)) then (if (wrap64 (x4 - 1)) < (x3.length : Int) then (if 0 < (x3.length : Int) then (some ((y284.set (0 : Int).toNat (⟨(rd_T27 y284 0).f0, (rd_T27 y284 (wrap64 (x4 - 1))).f1⟩ : S27)), bt285.2.1, bt285.2.2)) else (none)) else (none)) else (none)) else (some (y284, bt285.2.1, bt285.2.2)))) else (some (y284, bt280.2.2.1, bt280.2.2.2)))) else (none)) else (none)))) else (if x4 > 1 then ((spec_l1Chance.f x1000 x1001 x1002 10).bind fun bt290 => (if bt290.1 = true then (if 0 ≤ (wrap64 (x4 - 1)) then (if (wrap64 (x4 - 1)) < (x3.length : Int) then (if 0 < (x3.length : Int) then (some ((x3.set (0 : Int).toNat (⟨(rd_T27 x3 0).f0, (rd_T27 x3 (wrap64 (x4 - 1))).f1⟩ : S27)), bt290.2.1, bt290.2.2)) else (none)) else (none)) else (none)) else (some (x3, bt290.2.1, bt290.2.2)))) else (some (x3, x1001, x1002)))
end
def spec_l10DrawEntries.f (k : Nat) (s0_0 : List Int) (s0_1 : Int) (s0_2 : Int) : Option ((List (S27)) × Int × Int) := (some (([] : List (S27)) : List (S27))).bind fun y240 => ((spec_l1Next.f s0_0 s0_1 s0_2 (wrap64 (6 + s0_2))).bind fun bt243 => ((spec_l1Chance.f s0_0 bt243.2.1 bt243.2.2 30).bind fun bt246 => (if bt246.1 = true then ((spec_l1Next.f s0_0 bt246.2.1 bt246.2.2 2).bind fun bt249 => (spec_l10DrawEntries.j0 k y240 (wrap64 (160 + bt249.1)) s0_0 bt249.2.1 bt249.2.2)) else (spec_l10DrawEntries.j0 k y240 bt243.1 s0_0 bt246.2.1 bt246.2.2))))
theorem spec_l10DrawEntries.mono_l : ∀ k, (∀ y0 y1 y2 y3 y4, LeO (spec_l10DrawEntries.j0 k y0 y1 y2 y3 y4) (spec_l10DrawEntries.j0 (k + 1) y0 y1 y2 y3 y4)) ∧ (∀ y0 y1 y2 y3 y4 y5, LeO (spec_l10DrawEntries.l0 k y0 y1 y2 y3 y4 y5) (spec_l10DrawEntries.l0 (k + 1) y0 y1 y2 y3 y4 y5)) ∧ (∀ y0 y1 y2 y3 y4 y5, LeO (spec_l10DrawEntries.j2 k y0 y1 y2 y3 y4 y5) (spec_l10DrawEntries.j2 (k + 1) y0 y1 y2 y3 y4 y5))
  | 0 => ⟨fun _ _ _ _ _ r h => by simp [spec_l10DrawEntries.j0] at h, fun _ _ _ _ _ _ r h => by simp [spec_l10DrawEntries.l0] at h, fun _ _ _ _ _ _ r h => by simp [spec_l10DrawEntries.j2] at h⟩
  | k + 1 => by
    obtain ⟨ih0, ih1, ih2⟩ := spec_l10DrawEntries.mono_l k
    refine ⟨?_, ?_, ?_⟩
    · intro y0 y1 y2 y3 y4
      unfold spec_l10DrawEntries.j0
      repeat' first
      | (with_reducible exact ih0 _ _ _ _ _)
      | (with_reducible exact ih1 _ _ _ _ _ _)
      | (with_reducible exact ih2 _ _ _ _ _ _)
      | (with_reducible exact spec_l10DrawEntry.mono _ _ _ _)
      | (with_reducible exact LeO.refl _)
      | (with_reducible exact LeO.none _)
      | (with_reducible refine LeO.ite ?_ ?_)
      | (with_reducible refine LeO.bind ?_ (fun _ => ?_))
      | exact ih0 _ _ _ _ _
      | exact ih1 _ _ _ _ _ _
      | exact ih2 _ _ _ _ _ _
      | exact spec_l10DrawEntry.mono _ _ _ _
      | exact LeO.none _
      | refine LeO.ite ?_ ?_
      | refine LeO.bind ?_ (fun _ => ?_)
    · intro y0 y1 y2 y3 y4 y5
      unfold spec_l10DrawEntries.l0
      repeat' first
      | (with_reducible exact ih0 _ _ _ _ _)
      | (with_reducible exact ih1 _ _ _ _ _ _)
      | (with_reducible exact ih2 _ _ _ _ _ _)
      | (with_reducible exact spec_l10DrawEntry.mono _ _ _ _)
      | (with_reducible exact LeO.refl _)
      | (with_reducible exact LeO.none _)
      | (with_reducible refine LeO.ite ?_ ?_)
      | (with_reducible refine LeO.bind ?_ (fun _ => ?_))
      | exact ih0 _ _ _ _ _
      | exact ih1 _ _ _ _ _ _
      | exact ih2 _ _ _ _ _ _
      | exact spec_l10DrawEntry.mono _ _ _ _
      | exact LeO.none _
      | refine LeO.ite ?_ ?_
      | refine LeO.bind ?_ (fun _ => ?_)
    · intro y0 y1 y2 y3 y4 y5
      unfold spec_l10DrawEntries.j2
      repeat' first
      | (with_reducible exact ih0 _ _ _ _ _)
      | (with_reducible exact ih1 _ _ _ _ _ _)
      | (with_reducible exact ih2 _ _ _ _ _ _)
      | (with_reducible exact spec_l10DrawEntry.mono _ _ _ _)
      | (with_reducible exact LeO.refl _)
      | (with_reducible exact LeO.none _)
      | (with_reducible refine LeO.ite ?_ ?_)
      | (with_reducible refine LeO.bind ?_ (fun _ => ?_))
      | exact ih0 _ _ _ _ _
      | exact ih1 _ _ _ _ _ _
      | exact ih2 _ _ _ _ _ _
      | exact spec_l10DrawEntry.mono _ _ _ _
      | exact LeO.none _
      | refine LeO.ite ?_ ?_
      | refine LeO.bind ?_ (fun _ => ?_)
theorem spec_l10DrawEntries.mono : ∀ a0 a1 a2 k, LeO (spec_l10DrawEntries.f k a0 a1 a2) (spec_l10DrawEntries.f (k + 1) a0 a1 a2) := by
  intro a0 a1 a2 k
  obtain ⟨ih0, ih1, ih2⟩ := spec_l10DrawEntries.mono_l k
  unfold spec_l10DrawEntries.f
  repeat' first
      | (with_reducible exact ih0 _ _ _ _ _)
      | (with_reducible exact ih1 _ _ _ _ _ _)
      | (with_reducible exact ih2 _ _ _ _ _ _)
      | (with_reducible exact spec_l10DrawEntry.mono _ _ _ _)
      | (with_reducible exact LeO.refl _)
      | (with_reducible exact LeO.none _)
      | (with_reducible refine LeO.ite ?_ ?_)
      | (with_reducible refine LeO.bind ?_ (fun _ => ?_))
      | exact ih0 _ _ _ _ _
      | exact ih1 _ _ _ _ _ _
      | exact ih2 _ _ _ _ _ _
      | exact spec_l10DrawEntry.mono _ _ _ _
      | exact LeO.none _
      | refine LeO.ite ?_ ?_
      | refine LeO.bind ?_ (fun _ => ?_)
def spec_l10DrawEntries.T10 : Bool × List (List Nat × List Nat) := (true, [([], []), ([0], [0]), ([1], [1]), ([], []), ([3], [3]), ([4], [4]), ([5], [5]), ([6], [6]), ([2, 7], [2, 7]), ([8, 1, 0, 1, 2, 3, 4, 5, 6, 7, 8], [8])])
def spec_l10DrawEntries.B10 : List Nat := [0, 1, 3, 0, 8, 24, 56, 120, 255, 511]
theorem spec_l10DrawEntries.tab10 : rtab .any (opsOf Try.f65 10) = spec_l10DrawEntries.T10 := by kernel_rfl
theorem spec_l10DrawEntries.bits10 : waitsOk spec_l10DrawEntries.T10.2 spec_l10DrawEntries.B10 = true := by kernel_rfl
set_option maxHeartbeats 8000000 in
set_option maxRecDepth 100000 in
theorem spec_l10DrawEntries.calls (k : Nat) (g : Nat) (s0_0 : List Int) (s0_1 : Int) (s0_2 : Int) (r1 : List (S27)) (r2 : Int) (r3 : Int) (w0 w : World) (hI : IsS98 w0 w g s0_0 s0_1 s0_2) (hB : Below w0.heap.size w0 w) (h : spec_l10DrawEntries.f k s0_0 s0_1 s0_2 = some (r1, r2, r3)) :
    Calls Try.prog 65 #[.pointer (some ⟨g, 0, none⟩)] w fun e w' => ∃ v0_ : Value, e = .returned (v0_) ∧ Kd.R k27 27 w' w.heap.size (fun _ => True) v0_ r1 ∧ IsS98 w0 w' g s0_0 r2 r3 ∧ Below w0.heap.size w0 w' ∧ KeepBut w w' g none := by
  have hu27 := Try.underlying27
  have HI0 := Aside0.mk hI
  have HK := Aside0.mk (KeepBut.refl w g none)
  have HL := Aside0.mk hB.size
  clear hI
  have HW0 := Aside0.mk hB.size
  have HB := Aside0.mk hB
  clear hB
  have H : ((some (([] : List (S27)) : List (S27))).bind fun y240 => ((spec_l1Next.f s0_0 s0_1 s0_2 (wrap64 (6 + s0_2))).bind fun bt243 => ((spec_l1Chance.f s0_0 bt243.2.1 bt243.2.2 30).bind fun bt246 => (if bt246.1 = true then ((spec_l1Next.f s0_0 bt246.2.1 bt246.2.2 2).bind fun bt249 => (spec_l10DrawEntries.j0 k y240 (wrap64 (160 + bt249.1)) s0_0 bt249.2.1 bt249.2.2)) else (spec_l10DrawEntries.j0 k y240 bt243.1 s0_0 bt246.2.1 bt246.2.2))))) = some (r1, r2, r3) := h
  clear h
  obtain ⟨y240, hy240⟩ : ∃ y_ : List (S27), y_ = (([] : List (S27))) := ⟨_, rfl⟩
  replace H : ((spec_l1Next.f s0_0 s0_1 s0_2 (wrap64 (6 + s0_2))).bind fun bt243 => ((spec_l1Chance.f s0_0 bt243.2.1 bt243.2.2 30).bind fun bt246 => (if bt246.1 = true then ((spec_l1Next.f s0_0 bt246.2.1 bt246.2.2 2).bind fun bt249 => (spec_l10DrawEntries.j0 k y240 (wrap64 (160 + bt249.1)) s0_0 bt249.2.1 bt249.2.2)) else (spec_l10DrawEntries.j0 k y240 bt243.1 s0_0 bt246.2.1 bt246.2.2)))) = some (r1, r2, r3) := by first | (rw [hy240]; with_reducible exact H) | (have H2_ := (Option.bind_some _ _).symm.trans H; rw [hy240]; with_reducible exact H2_) | (have H2_ := (Option.bind_some _ _).symm.trans H; with_reducible exact H2_) | with_reducible exact H | (rw [hy240]; exact H) | exact H
  have Ny240 := Aside0.mk hy240
  clear hy240
  replace H := Option.bind_eq_some_iff.mp H
  obtain ⟨⟨t243, t244, t245⟩, A20, H⟩ := H
  replace H : ((spec_l1Chance.f s0_0 t244 t245 30).bind fun bt246 => (if bt246.1 = true then ((spec_l1Next.f s0_0 bt246.2.1 bt246.2.2 2).bind fun bt249 => (spec_l10DrawEntries.j0 k y240 (wrap64 (160 + bt249.1)) s0_0 bt249.2.1 bt249.2.2)) else (spec_l10DrawEntries.j0 k y240 t243 s0_0 bt246.2.1 bt246.2.2))) = some (r1, r2, r3) := H
  have A2 := Aside0.mk A20
  clear A20
  replace H := Option.bind_eq_some_iff.mp H
  obtain ⟨⟨t246, t247, t248⟩, A30, H⟩ := H
  replace H : (if t246 = true then ((spec_l1Next.f s0_0 t247 t248 2).bind fun bt249 => (spec_l10DrawEntries.j0 k y240 (wrap64 (160 + bt249.1)) s0_0 bt249.2.1 bt249.2.2)) else (spec_l10DrawEntries.j0 k y240 t243 s0_0 t247 t248)) = some (r1, r2, r3) := H
  have A3 := Aside0.mk A30
  clear A30
  have HC4 := Aside0.mk H
  clear H
  go_enter Try.func65, Try.ntmps65
  go_upto_if 16 with (first | ((with_reducible refine gate_dst (N := 7) rfl ?_); refine Kd.R_lit k27 _ 27 ?hg (N := 7) ?hd (xs := ([] : List (S27))) (inner := []) (ok := fun _ => True) (okp := fun _ => True) ?hr ?hp (fun _ hk => hk) trivial (Below.refl _ _) (Nat.le_refl _) (by simp) ?_; (case hd => rfl); (case hg => rfl); (case hr => first | (go_simp; done) | (go_simp; rfl)); (case hp => exact (Reps.none _ _)); intro v241 w5 ho6 hb hg_ hnew_; clear hg_ hnew_; (first | rw [← Ny240.out] at ho6 | (simp only [Int.reduceToNat] at ho6; rw [← Ny240.out] at ho6)); have n0_ := Aside0.mk (Kd.R_lower ho6 (keep_size (w := w) (g := g) (row := none) (by repeat (first | (with_reducible first | exact HK.out | apply KeepBut.set_ | apply keep_drewN | apply keep_drew | apply keep_alloc) | exact HK.out)))); have n1_ := Aside0.mk (IsS98.below (by repeat (first | (with_reducible first | exact HI0.out | apply IsS98.alloc | apply IsS98.drewN | apply IsS98.drew | apply IsS98.set_1 | apply IsS98.set_2) | exact HI0.out)) hb); have n2_ := Aside0.mk (KeepBut.trans (by repeat (first | (with_reducible first | exact HK.out | apply KeepBut.set_ | apply keep_drewN | apply keep_drew | apply keep_alloc) | exact HK.out)) (KeepBut.of_below hb g none) (.inl rfl)); have n3_ := Aside0.mk (below_step (by repeat (first | (with_reducible first | exact HB.out | apply below_alloc | apply pw_below_drewN | apply below_drew1 | refine below_set ?_ (IsS98.ge HI0.out)) | exact HB.out)) hb); clear HI0; clear HK; clear HB; have HO242 := n0_; have HI0 := n1_; have HK := n2_; have HB := n3_; clear n0_ n1_ n2_ n3_; clear hb ho6; obtain ⟨ASz7_0, cSz7_0, HGz7, hgz7, HSz7_0⟩ := HI0.out; have hcz7_0 := cellS98_0 HGz7; have hcz7_1 := cellS98_1 HGz7; have hcz7_2 := cellS98_2 HGz7; have hfz7_1 := blk_frozen HGz7 1; have hfz7_2 := blk_frozen HGz7 2; clear HGz7 hgz7) | ((with_reducible refine gate_callee (f := 66) rfl ?_); refine goesL_ (some 14) rfl rfl Try.func66 (by kernel_rfl) rfl #[.pointer (some ⟨g, 0, none⟩), .int .i64 (wrap64 (6 + s0_2))] rfl (by (try simp only [List.map_toArray, List.map_cons, List.map_nil]); first | done | rfl | (simp only [List.length_drop, List.length_take]; rfl)) ?_; (with_reducible refine (spec_l1Next.calls g s0_0 s0_1 s0_2 (wrap64 (6 + s0_2)) t243 t244 t245 w0 _ ?side1 ?side2 A2.out).mono ?_); (case side1 => repeat (first | (with_reducible first | exact HI0.out | apply IsS98.alloc | apply IsS98.drewN | apply IsS98.drew | apply IsS98.set_1 | apply IsS98.set_2) | exact HI0.out)); (case side2 => repeat (first | (with_reducible first | exact HB.out | apply below_alloc | apply pw_below_drewN | apply below_drew1 | refine below_set ?_ (IsS98.ge HI0.out)) | exact HB.out)); rintro e w8 ⟨rfl, hi, hb, hk⟩; refine ⟨_, rfl, ?_⟩; have n0_ := Aside0.mk (Kd.R_mono (Kd.R_keep (IsS98.apart (show IsS98 w0 _ g s0_0 s0_1 s0_2 from by repeat (first | (with_reducible first | exact HI0.out | apply IsS98.alloc | apply IsS98.drewN | apply IsS98.drew | apply IsS98.set_1 | apply IsS98.set_2) | exact HI0.out)) (by (with_reducible repeat (first | apply Kd.R_alloc | apply Kd.R_drewN | apply Kd.R_drew)); exact HO242.out) (by decide)) hk (fun _ h => h.2)) (fun _ h => h.1)); have n1_ := Aside0.mk (KeepBut.trans (by repeat (first | (with_reducible first | exact HK.out | apply KeepBut.set_ | apply keep_drewN | apply keep_drew | apply keep_alloc) | exact HK.out)) hk (.inl rfl)); have n2_ := Aside0.mk (hb); have n3_ := Aside0.mk (hi); clear HO242; clear HK; clear HB; clear HI0; have HO242 := n0_; have HK := n1_; have HB := n2_; have HI0 := n3_; clear n0_ n1_ n2_ n3_; (try clear hb); (try clear hb2); (try clear hk); (try clear hi)) | ((with_reducible refine gate_callee (f := 76) rfl ?_); refine goesL_ (some 16) rfl rfl Try.func76 (by kernel_rfl) rfl #[.pointer (some ⟨g, 0, none⟩), .int .i64 30] rfl (by (try simp only [List.map_toArray, List.map_cons, List.map_nil]); first | done | rfl | (simp only [List.length_drop, List.length_take]; rfl)) ?_; (with_reducible refine (spec_l1Chance.calls g s0_0 t244 t245 30 t246 t247 t248 w0 _ ?side1 ?side2 A3.out).mono ?_); (case side1 => repeat (first | (with_reducible first | exact HI0.out | apply IsS98.alloc | apply IsS98.drewN | apply IsS98.drew | apply IsS98.set_1 | apply IsS98.set_2) | exact HI0.out)); (case side2 => repeat (first | (with_reducible first | exact HB.out | apply below_alloc | apply pw_below_drewN | apply below_drew1 | refine below_set ?_ (IsS98.ge HI0.out)) | exact HB.out)); rintro e w9 ⟨rfl, hi, hb, hk⟩; refine ⟨_, rfl, ?_⟩; have n0_ := Aside0.mk (Kd.R_mono (Kd.R_keep (IsS98.apart (show IsS98 w0 _ g s0_0 t244 t245 from by repeat (first | (with_reducible first | exact HI0.out | apply IsS98.alloc | apply IsS98.drewN | apply IsS98.drew | apply IsS98.set_1 | apply IsS98.set_2) | exact HI0.out)) (by (with_reducible repeat (first | apply Kd.R_alloc | apply Kd.R_drewN | apply Kd.R_drew)); exact HO242.out) (by decide)) hk (fun _ h => h.2)) (fun _ h => h.1)); have n1_ := Aside0.mk (KeepBut.trans (by repeat (first | (with_reducible first | exact HK.out | apply KeepBut.set_ | apply keep_drewN | apply keep_drew | apply keep_alloc) | exact HK.out)) hk (.inl rfl)); have n2_ := Aside0.mk (hb); have n3_ := Aside0.mk (hi); clear HO242; clear HK; clear HB; clear HI0; have HO242 := n0_; have HK := n1_; have HB := n2_; have HI0 := n3_; clear n0_ n1_ n2_ n3_; (try clear hb); (try clear hb2); (try clear hk); (try clear hi)))
  (try simp only [Act.put, List.setIfInBounds_toArray, List.set_cons_zero, List.set_cons_succ])
  go_cut [4] (fun v4 wc => ∃ (kq : Nat) (x4_3 : Int) (x1001_3 : Int) (x1002_3 : Int), v4 = .int .i64 x4_3 ∧ Aside0 (spec_l10DrawEntries.j0 kq y240 x4_3 s0_0 x1001_3 x1002_3 = some (r1, r2, r3)) ∧ Aside0 (kq ≤ k) ∧ Aside0 (Kd.R k27 27 wc w.heap.size (fun _ => True) v241 y240) ∧ Aside0 (IsS98 w0 wc g s0_0 x1001_3 x1002_3) ∧ Aside0 (KeepBut w wc g none) ∧ Aside0 (Below w0.heap.size w0 wc))
  case first =>
    have H := HC4.out
    clear HC4
    by_cases c10 : t246 = true
    · subst c10
      have H1 : ((spec_l1Next.f s0_0 t247 t248 2).bind fun bt249 => (spec_l10DrawEntries.j0 k y240 (wrap64 (160 + bt249.1)) s0_0 bt249.2.1 bt249.2.2)) = some (r1, r2, r3) := by rw [if_pos rfl] at H; exact H
      clear H
      have H := H1
      clear H1
      replace H := Option.bind_eq_some_iff.mp H
      obtain ⟨⟨t249, t250, t251⟩, A110, H⟩ := H
      replace H : (spec_l10DrawEntries.j0 k y240 (wrap64 (160 + t249)) s0_0 t250 t251) = some (r1, r2, r3) := H
      have A11 := Aside0.mk A110
      clear A110
      have H' := Aside0.mk H
      clear H
      go_wp2_with (first | ((with_reducible refine gate_callee (f := 66) rfl ?_); refine goesL_ (some 18) rfl rfl Try.func66 (by kernel_rfl) rfl #[.pointer (some ⟨g, 0, none⟩), .int .i64 2] rfl (by (try simp only [List.map_toArray, List.map_cons, List.map_nil]); first | done | rfl | (simp only [List.length_drop, List.length_take]; rfl)) ?_; (with_reducible refine (spec_l1Next.calls g s0_0 t247 t248 2 t249 t250 t251 w0 _ ?side1 ?side2 A11.out).mono ?_); (case side1 => repeat (first | (with_reducible first | exact HI0.out | apply IsS98.alloc | apply IsS98.drewN | apply IsS98.drew | apply IsS98.set_1 | apply IsS98.set_2) | exact HI0.out)); (case side2 => repeat (first | (with_reducible first | exact HB.out | apply below_alloc | apply pw_below_drewN | apply below_drew1 | refine below_set ?_ (IsS98.ge HI0.out)) | exact HB.out)); rintro e w12 ⟨rfl, hi, hb, hk⟩; refine ⟨_, rfl, ?_⟩; have n0_ := Aside0.mk (Kd.R_mono (Kd.R_keep (IsS98.apart (show IsS98 w0 _ g s0_0 t247 t248 from by repeat (first | (with_reducible first | exact HI0.out | apply IsS98.alloc | apply IsS98.drewN | apply IsS98.drew | apply IsS98.set_1 | apply IsS98.set_2) | exact HI0.out)) (by (with_reducible repeat (first | apply Kd.R_alloc | apply Kd.R_drewN | apply Kd.R_drew)); exact HO242.out) (by decide)) hk (fun _ h => h.2)) (fun _ h => h.1)); have n1_ := Aside0.mk (KeepBut.trans (by repeat (first | (with_reducible first | exact HK.out | apply KeepBut.set_ | apply keep_drewN | apply keep_drew | apply keep_alloc) | exact HK.out)) hk (.inl rfl)); have n2_ := Aside0.mk (hb); have n3_ := Aside0.mk (hi); clear HO242; clear HK; clear HB; clear HI0; have HO242 := n0_; have HK := n1_; have HB := n2_; have HI0 := n3_; clear n0_ n1_ n2_ n3_; (try clear hb); (try clear hb2); (try clear hk); (try clear hi)))
      go_meet
      case rel => exact ⟨_, (wrap64 (160 + t249)), (t250), (t251), (by first | rfl | (simp; done) | (simp [*]; done)), H', ⟨by first | omega | exact Nat.le_refl _⟩, ⟨by (with_reducible repeat (first | apply Kd.R_alloc | apply Kd.R_drewN | apply Kd.R_drew)); exact HO242.out⟩, ⟨by repeat (first | (with_reducible first | exact HI0.out | apply IsS98.alloc | apply IsS98.drewN | apply IsS98.drew | apply IsS98.set_1 | apply IsS98.set_2) | exact HI0.out)⟩, ⟨by repeat (first | (with_reducible first | exact HK.out | apply KeepBut.set_ | apply keep_drewN | apply keep_drew | apply keep_alloc) | exact HK.out)⟩, ⟨by repeat (first | (with_reducible first | exact HB.out | apply below_alloc | apply pw_below_drewN | apply below_drew1 | refine below_set ?_ (IsS98.ge HI0.out)) | exact HB.out)⟩⟩
    · replace c10 := Bool.eq_false_iff.mpr c10
      subst c10
      have H1 : (spec_l10DrawEntries.j0 k y240 t243 s0_0 t247 t248) = some (r1, r2, r3) := by rw [if_neg (show ¬ (false = true) by decide)] at H; exact H
      clear H
      have H := H1
      clear H1
      have H' := Aside0.mk H
      clear H
      go_wp2
      go_meet
      case rel => exact ⟨_, (t243), (t247), (t248), (by first | rfl | (simp; done) | (simp [*]; done)), H', ⟨by first | omega | exact Nat.le_refl _⟩, ⟨by (with_reducible repeat (first | apply Kd.R_alloc | apply Kd.R_drewN | apply Kd.R_drew)); exact HO242.out⟩, ⟨by repeat (first | (with_reducible first | exact HI0.out | apply IsS98.alloc | apply IsS98.drewN | apply IsS98.drew | apply IsS98.set_1 | apply IsS98.set_2) | exact HI0.out)⟩, ⟨by repeat (first | (with_reducible first | exact HK.out | apply KeepBut.set_ | apply keep_drewN | apply keep_drew | apply keep_alloc) | exact HK.out)⟩, ⟨by repeat (first | (with_reducible first | exact HB.out | apply below_alloc | apply pw_below_drewN | apply below_drew1 | refine below_set ?_ (IsS98.ge HI0.out)) | exact HB.out)⟩⟩
  case rest =>
    clear HC4
    try clear c1
    try clear p2
    try clear c6
    try clear p6
    try clear c7
    try clear c10
    try clear hcz7_0
    try clear hcz7_1
    try clear hcz7_2
    try clear hfz7_1
    try clear hfz7_2
    obtain ⟨kq, x4_3, x1001_3, x1002_3, rfl, HA, HJ3, HO_3, HI0, HK, HB⟩ := hcut
    cases kq with
    | zero => exact absurd HA.out (by simp [spec_l10DrawEntries.j0])
    | succ kj3 =>
      have H := HA.out
      clear HA
      simp only [spec_l10DrawEntries.j0] at H
      have H' := Aside0.mk H
      clear H
      go_wp2
      go_loopg [3, 5] kj3 (fun kq v3 v5 w' => ∃ (x3_2 : List (S27)) (x5_2 : Int) (x1001_2 : Int) (x1002_2 : Int), v5 = .int .i64 x5_2 ∧ Aside0 (spec_l10DrawEntries.l0 kq x3_2 x4_3 x5_2 s0_0 x1001_2 x1002_2 = some (r1, r2, r3)) ∧ Aside0 (kq ≤ kj3) ∧ Aside0 (Kd.R k27 27 w' w.heap.size (fun _ => True) v3 x3_2) ∧ Aside0 (IsS98 w0 w' g s0_0 x1001_2 x1002_2) ∧ Aside0 (KeepBut w w' g none) ∧ Aside0 (Below w0.heap.size w0 w'))
      case atStart => exact ⟨(y240), (0), (x1001_3), (x1002_3), (by first | rfl | (simp; done) | (simp [*]; done)), H', ⟨Nat.le_refl _⟩, ⟨by (with_reducible repeat (first | apply Kd.R_alloc | apply Kd.R_drewN | apply Kd.R_drew)); exact HO_3.out⟩, ⟨by repeat (first | (with_reducible first | exact HI0.out | apply IsS98.alloc | apply IsS98.drewN | apply IsS98.drew | apply IsS98.set_1 | apply IsS98.set_2) | exact HI0.out)⟩, ⟨by repeat (first | (with_reducible first | exact HK.out | apply KeepBut.set_ | apply keep_drewN | apply keep_drew | apply keep_alloc) | exact HK.out)⟩, ⟨by repeat (first | (with_reducible first | exact HB.out | apply below_alloc | apply pw_below_drewN | apply below_drew1 | refine below_set ?_ (IsS98.ge HI0.out)) | exact HB.out)⟩⟩
      case round =>
        clear H'
        try clear c1
        try clear p2
        try clear c6
        try clear p6
        try clear c7
        try clear c10
        try clear hcz7_0
        try clear hcz7_1
        try clear hcz7_2
        try clear hfz7_1
        try clear hfz7_2
        try clear p2
        try clear p6
        obtain ⟨x3_2, x5_2, x1001_2, x1002_2, rfl, HA, HK2, HO_3, HI0, HK, HB⟩ := hrel
        cases gk with
        | zero => exact absurd HA.out (by simp [spec_l10DrawEntries.l0])
        | succ k2 =>
          have H := HA.out
          clear HA
          simp only [spec_l10DrawEntries.l0] at H
          by_cases c13 : x5_2 < x4_3
          · rw [if_pos c13] at H
            have c13b0 : decide (x5_2 < x4_3) = true := decide_eq_true c13
            clear c13
            obtain ⟨y252, hy252⟩ : ∃ y_ : List Int, y_ = (([(wrap64 (40 + (wrap64 (Int.tdiv x5_2 20)))) % 256, (wrap64 (60 + (Int.tmod x5_2 20))) % 256] : List Int)) := ⟨_, rfl⟩
            replace H : (if 1 + (strOfNums y252).size ≤ 9223372036854775807 then ((spec_l1Chance.f s0_0 x1001_2 x1002_2 3).bind fun bt256 => (if bt256.1 = true then (if x4_3 < 20 then ((spec_l1Next.f s0_0 bt256.2.1 bt256.2.2 9).bind fun bt259 => (if x3_2.length < 5864062014805 then (spec_l10DrawEntries.l0 k2 (x3_2 ++ [(⟨wrap64 (1 + bt259.1), strOfNums (([(wrap64 (97 + x5_2)) % 256] : List Int))⟩ : S27)]) x4_3 (wrap64 (x5_2 + 1)) s0_0 bt259.2.1 bt259.2.2) else (none))) else (if x3_2.length < 5864062014805 then (spec_l10DrawEntries.l0 k2 (x3_2 ++ [(⟨wrap64 (1 + (Int.tmod x5_2 256)), (⟨#[110]⟩ : ByteArray) ++ (strOfNums y252)⟩ : S27)]) x4_3 (wrap64 (x5_2 + 1)) s0_0 bt256.2.1 bt256.2.2) else (none))) else (if x3_2.length < 5864062014805 then (spec_l10DrawEntries.l0 k2 (x3_2 ++ [(⟨wrap64 (1 + (Int.tmod x5_2 256)), (⟨#[110]⟩ : ByteArray) ++ (strOfNums y252)⟩ : S27)]) x4_3 (wrap64 (x5_2 + 1)) s0_0 bt256.2.1 bt256.2.2) else (none)))) else (none)) = some (r1, r2, r3) := by first | (rw [hy252]; with_reducible exact H) | (have H2_ := (Option.bind_some _ _).symm.trans H; rw [hy252]; with_reducible exact H2_) | (have H2_ := (Option.bind_some _ _).symm.trans H; with_reducible exact H2_) | with_reducible exact H | (rw [hy252]; exact H) | exact H
            have Ny252 := Aside0.mk hy252
            clear hy252
            by_cases c14 : 1 + (strOfNums y252).size ≤ 9223372036854775807
            · rw [if_pos c14] at H
              have c14b0 := eq_true c14
              have c14b1 : decide (1 + (strOfNums y252).size ≤ 9223372036854775807) = true := decide_eq_true c14
              try have c14b2 : (9223372036854775807 < 1 + (strOfNums y252).size) = False := eq_false (Nat.not_lt.2 c14)
              replace H := Option.bind_eq_some_iff.mp H
              obtain ⟨⟨t256, t257, t258⟩, A150, H⟩ := H
              replace H : (if t256 = true then (if x4_3 < 20 then ((spec_l1Next.f s0_0 t257 t258 9).bind fun bt259 => (if x3_2.length < 5864062014805 then (spec_l10DrawEntries.l0 k2 (x3_2 ++ [(⟨wrap64 (1 + bt259.1), strOfNums (([(wrap64 (97 + x5_2)) % 256] : List Int))⟩ : S27)]) x4_3 (wrap64 (x5_2 + 1)) s0_0 bt259.2.1 bt259.2.2) else (none))) else (if x3_2.length < 5864062014805 then (spec_l10DrawEntries.l0 k2 (x3_2 ++ [(⟨wrap64 (1 + (Int.tmod x5_2 256)), (⟨#[110]⟩ : ByteArray) ++ (strOfNums y252)⟩ : S27)]) x4_3 (wrap64 (x5_2 + 1)) s0_0 t257 t258) else (none))) else (if x3_2.length < 5864062014805 then (spec_l10DrawEntries.l0 k2 (x3_2 ++ [(⟨wrap64 (1 + (Int.tmod x5_2 256)), (⟨#[110]⟩ : ByteArray) ++ (strOfNums y252)⟩ : S27)]) x4_3 (wrap64 (x5_2 + 1)) s0_0 t257 t258) else (none))) = some (r1, r2, r3) := H
              have A15 := Aside0.mk A150
              clear A150
              by_cases c16 : t256 = true
              · subst c16
                have H1 : (if x4_3 < 20 then ((spec_l1Next.f s0_0 t257 t258 9).bind fun bt259 => (if x3_2.length < 5864062014805 then (spec_l10DrawEntries.l0 k2 (x3_2 ++ [(⟨wrap64 (1 + bt259.1), strOfNums (([(wrap64 (97 + x5_2)) % 256] : List Int))⟩ : S27)]) x4_3 (wrap64 (x5_2 + 1)) s0_0 bt259.2.1 bt259.2.2) else (none))) else (if x3_2.length < 5864062014805 then (spec_l10DrawEntries.l0 k2 (x3_2 ++ [(⟨wrap64 (1 + (Int.tmod x5_2 256)), (⟨#[110]⟩ : ByteArray) ++ (strOfNums y252)⟩ : S27)]) x4_3 (wrap64 (x5_2 + 1)) s0_0 t257 t258) else (none))) = some (r1, r2, r3) := by rw [if_pos rfl] at H; exact H
                clear H
                have H := H1
                clear H1
                by_cases c17 : x4_3 < 20
                · rw [if_pos c17] at H
                  have c17b0 : decide (x4_3 < 20) = true := decide_eq_true c17
                  clear c17
                  replace H := Option.bind_eq_some_iff.mp H
                  obtain ⟨⟨t259, t260, t261⟩, A180, H⟩ := H
                  replace H : (if x3_2.length < 5864062014805 then (spec_l10DrawEntries.l0 k2 (x3_2 ++ [(⟨wrap64 (1 + t259), strOfNums (([(wrap64 (97 + x5_2)) % 256] : List Int))⟩ : S27)]) x4_3 (wrap64 (x5_2 + 1)) s0_0 t260 t261) else (none)) = some (r1, r2, r3) := H
                  have A18 := Aside0.mk A180
                  clear A180
                  obtain ⟨y262, hy262⟩ : ∃ y_ : List Int, y_ = (([(wrap64 (97 + x5_2)) % 256] : List Int)) := ⟨_, rfl⟩
                  replace H : (if x3_2.length < 5864062014805 then (spec_l10DrawEntries.l0 k2 (x3_2 ++ [(⟨wrap64 (1 + t259), strOfNums y262⟩ : S27)]) x4_3 (wrap64 (x5_2 + 1)) s0_0 t260 t261) else (none)) = some (r1, r2, r3) := by first | (rw [hy262]; with_reducible exact H) | (have H2_ := (Option.bind_some _ _).symm.trans H; rw [hy262]; with_reducible exact H2_) | (have H2_ := (Option.bind_some _ _).symm.trans H; with_reducible exact H2_) | with_reducible exact H | (rw [hy262]; exact H) | exact H
                  have Ny262 := Aside0.mk hy262
                  clear hy262
                  by_cases c19 : x3_2.length < 5864062014805
                  · rw [if_pos c19] at H
                    have LMc19 := Aside0.mk c19
                    clear c19
                    obtain ⟨y265, hy265⟩ : ∃ y_ : List (S27), y_ = (x3_2 ++ [(⟨wrap64 (1 + t259), strOfNums y262⟩ : S27)]) := ⟨_, rfl⟩
                    replace H : (spec_l10DrawEntries.l0 k2 y265 x4_3 (wrap64 (x5_2 + 1)) s0_0 t260 t261) = some (r1, r2, r3) := by first | (rw [hy265]; with_reducible exact H) | (have H2_ := (Option.bind_some _ _).symm.trans H; rw [hy265]; with_reducible exact H2_) | (have H2_ := (Option.bind_some _ _).symm.trans H; with_reducible exact H2_) | with_reducible exact H | (rw [hy265]; exact H) | exact H
                    have Ny265 := Aside0.mk hy265
                    clear hy265
                    have H' := Aside0.mk H
                    clear H
                    try go_wp2_with (first | ((with_reducible refine gate_dst (N := 36) rfl ?_); refine Kd.R_lit (Kd.int .u8) _ 5 ?hg (N := 36) ?hd (xs := ([(wrap64 (40 + (wrap64 (Int.tdiv x5_2 20)))) % 256, (wrap64 (60 + (Int.tmod x5_2 20))) % 256] : List Int)) (inner := [.int .u8 ((wrap64 (40 + (wrap64 (Int.tdiv x5_2 20)))) % 256), .int .u8 ((wrap64 (60 + (Int.tmod x5_2 20))) % 256)]) (ok := fun _ => True) (okp := fun _ => True) ?hr ?hp (fun _ hk => hk) trivial (Below.refl _ _) (Nat.le_refl _) (by simp) ?_; (case hd => rfl); (case hg => rfl); (case hr => first | (go_simp; done) | (go_simp; rfl)); (case hp => exact (Reps.one (show Kd.M (Kd.int .u8) _ _ _ ((wrap64 (40 + (wrap64 (Int.tdiv x5_2 20)))) % 256) [.int .u8 ((wrap64 (40 + (wrap64 (Int.tdiv x5_2 20)))) % 256)] from rfl) (Reps.one (show Kd.M (Kd.int .u8) _ _ _ ((wrap64 (60 + (Int.tmod x5_2 20))) % 256) [.int .u8 ((wrap64 (60 + (Int.tmod x5_2 20))) % 256)] from rfl) (Reps.none _ _)))); intro v253 w20 ho21 hb hg_ hnew_; clear hg_ hnew_; (first | rw [← Ny252.out] at ho21 | (simp only [Int.reduceToNat] at ho21; rw [← Ny252.out] at ho21)); have n0_ := Aside0.mk (Kd.R_below (by (with_reducible repeat (first | apply Kd.R_alloc | apply Kd.R_drewN | apply Kd.R_drew)); exact HO_3.out) hb); have n1_ := Aside0.mk (Kd.R_lower ho21 (keep_size (w := w) (g := g) (row := none) (by repeat (first | (with_reducible first | exact HK.out | apply KeepBut.set_ | apply keep_drewN | apply keep_drew | apply keep_alloc) | exact HK.out)))); have n2_ := Aside0.mk (IsS98.below (by repeat (first | (with_reducible first | exact HI0.out | apply IsS98.alloc | apply IsS98.drewN | apply IsS98.drew | apply IsS98.set_1 | apply IsS98.set_2) | exact HI0.out)) hb); have n3_ := Aside0.mk (KeepBut.trans (by repeat (first | (with_reducible first | exact HK.out | apply KeepBut.set_ | apply keep_drewN | apply keep_drew | apply keep_alloc) | exact HK.out)) (KeepBut.of_below hb g none) (.inl rfl)); have n4_ := Aside0.mk (below_step (by repeat (first | (with_reducible first | exact HB.out | apply below_alloc | apply pw_below_drewN | apply below_drew1 | refine below_set ?_ (IsS98.ge HI0.out)) | exact HB.out)) hb); clear HO_3; clear HI0; clear HK; clear HB; have HO_3 := n0_; have HO254 := n1_; have HI0 := n2_; have HK := n3_; have HB := n4_; clear n0_ n1_ n2_ n3_ n4_; clear hb ho21; have hcv22 := own_string (P := Try.prog) Try.underlying25 Try.underlying5 Try.underlying9 (Kd.own_of_R HO254.out)) | ((with_reducible refine gate_dst (N := 6) rfl ?_); refine box_event ?hg (N := 6) ?hd (cs := #[.int .i64 0, .string (⟨#[]⟩ : ByteArray)]) (t := 27) ?hr ?_; (case hd => rfl); (case hg => rfl); (case hr => first | (go_simp; done) | (go_simp; rfl)); intro gb255 hg w23 hbox hb; have n0_ := Aside0.mk (Kd.R_below (Kd.R_elderB (by (with_reducible repeat (first | apply Kd.R_alloc | apply Kd.R_drewN | apply Kd.R_drew)); exact HO_3.out) gb255 (Nat.le_of_eq hg.symm)) hb); have n1_ := Aside0.mk (Kd.R_below (by (with_reducible repeat (first | apply Kd.R_alloc | apply Kd.R_drewN | apply Kd.R_drew)); exact HO254.out) hb); have n2_ := Aside0.mk (IsS98.below (by repeat (first | (with_reducible first | exact HI0.out | apply IsS98.alloc | apply IsS98.drewN | apply IsS98.drew | apply IsS98.set_1 | apply IsS98.set_2) | exact HI0.out)) hb); have n3_ := Aside0.mk (KeepBut.trans (by repeat (first | (with_reducible first | exact HK.out | apply KeepBut.set_ | apply keep_drewN | apply keep_drew | apply keep_alloc) | exact HK.out)) (KeepBut.of_below hb g none) (.inl rfl)); have n4_ := Aside0.mk (below_step (by repeat (first | (with_reducible first | exact HB.out | apply below_alloc | apply pw_below_drewN | apply below_drew1 | refine below_set ?_ (IsS98.ge HI0.out)) | exact HB.out)) hb); have n5_ := Aside0.mk (hbox); have n6_ := Aside0.mk ((by rw [hg]; exact (keep_size (w := w) (g := g) (row := none) (by repeat (first | (with_reducible first | exact HK.out | apply KeepBut.set_ | apply keep_drewN | apply keep_drew | apply keep_alloc) | exact HK.out))) : w.heap.size ≤ gb255)); have n7_ := Aside0.mk ((Nat.le_trans HW0.out (by rw [hg]; exact (keep_size (w := w) (g := g) (row := none) (by repeat (first | (with_reducible first | exact HK.out | apply KeepBut.set_ | apply keep_drewN | apply keep_drew | apply keep_alloc) | exact HK.out))) : w.heap.size ≤ gb255) : w0.heap.size ≤ gb255)); have n8_ := Aside0.mk ((by rw [hg]; exact Nat.ne_of_lt (IsS98.lt (show IsS98 w0 _ g s0_0 x1001_2 x1002_2 from by repeat (first | (with_reducible first | exact HI0.out | apply IsS98.alloc | apply IsS98.drewN | apply IsS98.drew | apply IsS98.set_1 | apply IsS98.set_2) | exact HI0.out))) : g ≠ gb255)); have n9_ := Aside0.mk ((by rw [hg]; exact Nat.ne_of_gt (IsS98.lt (show IsS98 w0 _ g s0_0 x1001_2 x1002_2 from by repeat (first | (with_reducible first | exact HI0.out | apply IsS98.alloc | apply IsS98.drewN | apply IsS98.drew | apply IsS98.set_1 | apply IsS98.set_2) | exact HI0.out))) : gb255 ≠ g)); clear HO_3; clear HO254; clear HI0; clear HK; clear HB; have HO_3 := n0_; have HO254 := n1_; have HI0 := n2_; have HK := n3_; have HB := n4_; have BK255 := n5_; have GW255 := n6_; have GE255 := n7_; have NB0_255 := n8_; have NB255_0 := n9_; clear n0_ n1_ n2_ n3_ n4_ n5_ n6_ n7_ n8_ n9_; clear hb hbox hg; have hnb24 := NB255_0.out; have hnc24 := NB0_255.out; have hcz25_0 : w23.cell? ⟨gb255, 0, none⟩ = some (.int .i64 0) := (blk_cell BK255.out 0).trans rfl; have hcz25_1 : w23.cell? ⟨gb255, 1, none⟩ = some (.string (⟨#[]⟩ : ByteArray)) := (blk_cell BK255.out 1).trans rfl; have hfz25_0 := blk_frozen BK255.out 0; have hfz25_1 := blk_frozen BK255.out 1) | ((with_reducible refine gate_callee (f := 76) rfl ?_); refine goesL_ (some 41) rfl rfl Try.func76 (by kernel_rfl) rfl #[.pointer (some ⟨g, 0, none⟩), .int .i64 3] rfl (by (try simp only [List.map_toArray, List.map_cons, List.map_nil]); first | done | rfl | (simp only [List.length_drop, List.length_take]; rfl)) ?_; (with_reducible refine (spec_l1Chance.calls g s0_0 x1001_2 x1002_2 3 true t257 t258 w0 _ ?side1 ?side2 A15.out).mono ?_); (case side1 => repeat (first | (with_reducible first | exact HI0.out | apply IsS98.alloc | apply IsS98.drewN | apply IsS98.drew | apply IsS98.set_1 | apply IsS98.set_2 | refine IsS98.far ?_ NB0_255.out _) | exact HI0.out)); (case side2 => repeat (first | (with_reducible first | exact HB.out | apply below_alloc | apply pw_below_drewN | apply below_drew1 | refine below_set ?_ (IsS98.ge HI0.out) | refine below_set ?_ GE255.out) | exact HB.out)); rintro e w26 ⟨rfl, hi, hb, hk⟩; refine ⟨_, rfl, ?_⟩; have n0_ := Aside0.mk (Kd.R_mono (Kd.R_keep (IsS98.apart (show IsS98 w0 _ g s0_0 x1001_2 x1002_2 from by repeat (first | (with_reducible first | exact HI0.out | apply IsS98.alloc | apply IsS98.drewN | apply IsS98.drew | apply IsS98.set_1 | apply IsS98.set_2 | refine IsS98.far ?_ NB0_255.out _) | exact HI0.out)) (by (with_reducible repeat (first | apply Kd.R_alloc | apply Kd.R_drewN | apply Kd.R_drew)); exact (Kd.R_mono (Kd.R_far (p := ⟨gb255, 1, none⟩) (Kd.R_far (p := ⟨gb255, 0, none⟩) (Kd.R_mono HO_3.out (fun k_ hk => (⟨hk, hk.2⟩ : _ ∧ k_ ≠ gb255))) (fun _ hk => hk.2) (.int .i64 (wrap64 (1 + (Int.tmod x5_2 256))))) (fun _ hk => hk.2) (.string ((⟨#[110]⟩ : ByteArray) ++ (strOfNums y252)))) (fun _ h_ => h_.1))) (by decide)) hk (fun _ h => h.2)) (fun _ h => h.1)); have n1_ := Aside0.mk (Kd.R_mono (Kd.R_keep (IsS98.apart (show IsS98 w0 _ g s0_0 x1001_2 x1002_2 from by repeat (first | (with_reducible first | exact HI0.out | apply IsS98.alloc | apply IsS98.drewN | apply IsS98.drew | apply IsS98.set_1 | apply IsS98.set_2 | refine IsS98.far ?_ NB0_255.out _) | exact HI0.out)) (by (with_reducible repeat (first | apply Kd.R_alloc | apply Kd.R_drewN | apply Kd.R_drew)); exact (Kd.R_mono (Kd.R_far (p := ⟨gb255, 1, none⟩) (Kd.R_far (p := ⟨gb255, 0, none⟩) (Kd.R_types HO254.out BK255.out (by decide)) (fun _ hk => hk.2) (.int .i64 (wrap64 (1 + (Int.tmod x5_2 256))))) (fun _ hk => hk.2) (.string ((⟨#[110]⟩ : ByteArray) ++ (strOfNums y252)))) (fun _ h_ => h_.1))) (by decide)) hk (fun _ h => h.2)) (fun _ h => h.1)); have n2_ := Aside0.mk (KeepBut.blk hk (g' := gb255) (o := .cells #[.int .i64 (wrap64 (1 + (Int.tmod x5_2 256))), .string ((⟨#[110]⟩ : ByteArray) ++ (strOfNums y252))] 27 (0, 0)) (by (with_reducible repeat (first | refine blk_drewN ?_ _ | refine blk_drew ?_ | refine blk_alloc ?_ _)); refine blk_put (cs := #[.int .i64 (wrap64 (1 + (Int.tmod x5_2 256))), .string (⟨#[]⟩ : ByteArray)]) ?_ 1 _ rfl; (with_reducible repeat (first | refine blk_drewN ?_ _ | refine blk_drew ?_ | refine blk_alloc ?_ _)); refine blk_put (cs := #[.int .i64 0, .string (⟨#[]⟩ : ByteArray)]) ?_ 0 _ rfl; (with_reducible repeat (first | refine blk_drewN ?_ _ | refine blk_drew ?_ | refine blk_alloc ?_ _)); exact BK255.out) NB255_0.out (by simp)); have n3_ := Aside0.mk (KeepBut.trans (by repeat (first | (with_reducible first | exact HK.out | apply KeepBut.set_ | apply keep_drewN | apply keep_drew | apply keep_alloc | refine keep_far ?_ GW255.out _) | exact HK.out)) hk (.inl rfl)); have n4_ := Aside0.mk (hb); have n5_ := Aside0.mk (hi); clear HO_3; clear HO254; clear BK255; clear HK; clear HB; clear HI0; have HO_3 := n0_; have HO254 := n1_; have BK255 := n2_; have HK := n3_; have HB := n4_; have HI0 := n5_; clear n0_ n1_ n2_ n3_ n4_ n5_; (try clear hb); (try clear hb2); (try clear hk); (try clear hi)))
                    have n0_ := Aside0.mk (Kd.R_drew HO_3.out)
                    have n1_ := Aside0.mk (Kd.R_drew HO254.out)
                    have n2_ := Aside0.mk (blk_drew BK255.out)
                    have n3_ := Aside0.mk (IsS98.drew HI0.out)
                    have n4_ := Aside0.mk (keep_drew HK.out)
                    have n5_ := Aside0.mk (below_drew1 HB.out)
                    clear HO_3
                    clear HO254
                    clear BK255
                    clear HI0
                    clear HK
                    clear HB
                    have HO_3 := n0_
                    have HO254 := n1_
                    have BK255 := n2_
                    have HI0 := n3_
                    have HK := n4_
                    have HB := n5_
                    clear n0_ n1_ n2_ n3_ n4_ n5_
                    refine start_ (n := 10) (S := fun w' => True) (ds := []) #[false, false, false, false, false, false, false, false, false, false] (by kernel_rfl) rfl rfl trivial (fun hHeld => ?_); refine with_tabW spec_l10DrawEntries.tab10 spec_l10DrawEntries.bits10 (fun HT_ HW_ => ?_)
                    generalize w26.drew = w27 at HO_3 HO254 BK255 HI0 HK HB hHeld ⊢
                    refine pure_ (i := 0) (N := some 46) (v := ?_) (a' := ?_) #[true, false, false, false, false, false, false, false, false, false] rfl rfl (any_of HT_.out (by kernel_rfl)) (fun _ _ _ h => h) (Or.inl ⟨by rfl, ?_⟩) ?_ ?_
                    rotate_left
                    · intro w'
                      go_simp
                      with_reducible rfl
                    rotate_left
                    · simp only [Act.put, List.setIfInBounds_toArray, List.set_cons_zero, List.set_cons_succ, i64_w, i32_w]
                      rfl
                    refine pure_ (i := 3) (N := some 49) (v := ?_) (a' := ?_) #[true, false, false, true, false, false, false, false, false, false] rfl rfl (any_of HT_.out (by kernel_rfl)) (fun _ _ _ h => h) (Or.inl ⟨by rfl, ?_⟩) ?_ ?_
                    rotate_left
                    · intro w'
                      go_simp
                      with_reducible rfl
                    rotate_left
                    · simp only [Act.put, List.setIfInBounds_toArray, List.set_cons_zero, List.set_cons_succ, i64_w, i32_w]
                      rfl
                    refine pure_ (i := 4) (N := some 50) (v := ?_) (a' := ?_) #[true, false, false, true, true, false, false, false, false, false] rfl rfl (any_of HT_.out (by kernel_rfl)) (fun _ _ _ h => h) (Or.inl ⟨by rfl, ?_⟩) ?_ ?_
                    rotate_left
                    · intro w'
                      go_simp
                      with_reducible rfl
                    rotate_left
                    · simp only [Act.put, List.setIfInBounds_toArray, List.set_cons_zero, List.set_cons_succ, i64_w, i32_w]
                      rfl
                    refine pure_ (i := 5) (N := some 51) (v := ?_) (a' := ?_) #[true, false, false, true, true, true, false, false, false, false] rfl rfl (any_of HT_.out (by kernel_rfl)) (fun _ _ _ h => h) (Or.inl ⟨by rfl, ?_⟩) ?_ ?_
                    rotate_left
                    · intro w'
                      go_simp
                      with_reducible rfl
                    rotate_left
                    · simp only [Act.put, List.setIfInBounds_toArray, List.set_cons_zero, List.set_cons_succ, i64_w, i32_w]
                      rfl
                    refine join_ (σ := Value) 2 #[true, true, true, true, true, true, true, true, false, false] (fun s_ => [(47, .int .i64 t259), (52, s_), (53, .string (strOfNums y262)), (48, .int .i64 (wrap64 (1 + t259)))]) (fun s_ w' => (Kd.R (Kd.int .u8) 5 w' w.heap.size (fun k_ => some k_ ≠ (s_ : Value).ownBlock) v253 y252) ∧ (Kd.R (Kd.int .u8) 5 w' w.heap.size (fun k_ => some k_ ≠ (v253 : Value).ownBlock) s_ y262) ∧ (Kd.R k27 27 w' w.heap.size (fun k_ => k_ ≠ gb255) u3 x3_2) ∧ (w'.heap[gb255]? = some (.cells #[.int .i64 (wrap64 (1 + (Int.tmod x5_2 256))), .string ((⟨#[110]⟩ : ByteArray) ++ (strOfNums y252))] 27 (0, 0))) ∧ (IsS98 w0 w' g s0_0 t260 t261) ∧ (KeepBut w w' g none) ∧ (Below w0.heap.size w0 w')) ?_ ?_
                    rotate_left
                    · intro hCont
                      refine two_ (i := 1) (j := 6) (Ni := some 47) (Nj := some 52) #[true, true, false, true, true, true, false, false, false, false] #[true, false, false, true, true, true, true, false, false, false] rfl rfl rfl rfl (two_of HT_.out (by kernel_rfl)) (by decide) (by decide) (fun K hK => ?_) (fun K hK => ?_)
                      · skip
                        refine goes_ Try.func66 (by kernel_rfl) rfl #[.pointer (some ⟨g, 0, none⟩), .int .i64 9] (by rfl) rfl rfl (by (try simp only [List.map_toArray, List.map_cons, List.map_nil]); first | done | rfl | (simp only [List.length_drop, List.length_take]; rfl)) ?_
                        with_reducible refine (spec_l1Next.calls g s0_0 t257 t258 9 t259 t260 t261 w0 _ ?side1 ?side2 A18.out).mono ?_
                        (case side1 => repeat (first | (with_reducible first | exact HI0.out | apply IsS98.alloc | apply IsS98.drewN | apply IsS98.drew | apply IsS98.set_1 | apply IsS98.set_2 | refine IsS98.far ?_ NB0_255.out _) | exact HI0.out))
                        (case side2 => repeat (first | (with_reducible first | exact HB.out | apply below_alloc | apply pw_below_drewN | apply below_drew1 | refine below_set ?_ (IsS98.ge HI0.out) | refine below_set ?_ GE255.out) | exact HB.out))
                        rintro e w28 ⟨rfl, hi, hb, hk⟩
                        refine ⟨_, rfl, ?_⟩
                        have n0_ := Aside0.mk (Kd.R_mono (Kd.R_keep (IsS98.apart (show IsS98 w0 _ g s0_0 t257 t258 from by repeat (first | (with_reducible first | exact HI0.out | apply IsS98.alloc | apply IsS98.drewN | apply IsS98.drew | apply IsS98.set_1 | apply IsS98.set_2 | refine IsS98.far ?_ NB0_255.out _) | exact HI0.out)) (by (with_reducible repeat (first | apply Kd.R_alloc | apply Kd.R_drewN | apply Kd.R_drew)); exact HO_3.out) (by decide)) hk (fun _ h => h.2)) (fun _ h => h.1))
                        have n1_ := Aside0.mk (Kd.R_mono (Kd.R_keep (IsS98.apart (show IsS98 w0 _ g s0_0 t257 t258 from by repeat (first | (with_reducible first | exact HI0.out | apply IsS98.alloc | apply IsS98.drewN | apply IsS98.drew | apply IsS98.set_1 | apply IsS98.set_2 | refine IsS98.far ?_ NB0_255.out _) | exact HI0.out)) (by (with_reducible repeat (first | apply Kd.R_alloc | apply Kd.R_drewN | apply Kd.R_drew)); exact HO254.out) (by decide)) hk (fun _ h => h.2)) (fun _ h => h.1))
                        have n2_ := Aside0.mk (KeepBut.blk hk (g' := gb255) (o := .cells #[.int .i64 (wrap64 (1 + (Int.tmod x5_2 256))), .string ((⟨#[110]⟩ : ByteArray) ++ (strOfNums y252))] 27 (0, 0)) (by (with_reducible repeat (first | refine blk_drewN ?_ _ | refine blk_drew ?_ | refine blk_alloc ?_ _)); exact BK255.out) NB255_0.out (by simp))
                        have n3_ := Aside0.mk (KeepBut.trans (by repeat (first | (with_reducible first | exact HK.out | apply KeepBut.set_ | apply keep_drewN | apply keep_drew | apply keep_alloc | refine keep_far ?_ GW255.out _) | exact HK.out)) hk (.inl rfl))
                        have n4_ := Aside0.mk (hb)
                        have n5_ := Aside0.mk (hi)
                        clear HO_3
                        clear HO254
                        clear BK255
                        clear HK
                        clear HB
                        clear HI0
                        have HO_3 := n0_
                        have HO254 := n1_
                        have BK255 := n2_
                        have HK := n3_
                        have HB := n4_
                        have HI0 := n5_
                        clear n0_ n1_ n2_ n3_ n4_ n5_
                        (try clear hb)
                        (try clear hb2)
                        (try clear hk)
                        (try clear hi)
                        refine hK.out _ _ trivial (fun hHeld => ?_)
                        clear hK K
                        refine norm_ (a' := ?_) ?_ ?_
                        rotate_left
                        · show Act.put _ (some 47) _ = _
                          simp only [Act.put, List.setIfInBounds_toArray, List.set_cons_zero, List.set_cons_succ, i64_w, i32_w]
                          rfl
                        refine pure_ (i := 2) (N := some 48) (v := ?_) (a' := ?_) #[true, true, true, true, true, true, false, false, false, false] rfl rfl (any_of HT_.out (by kernel_rfl)) (fun _ _ _ h => h) (Or.inl ⟨by rfl, ?_⟩) ?_ ?_
                        rotate_left
                        · intro w'
                          go_simp
                          with_reducible rfl
                        rotate_left
                        · simp only [Act.put, List.setIfInBounds_toArray, List.set_cons_zero, List.set_cons_succ, i64_w, i32_w]
                          rfl
                        refine one_ (i := 6) (N := some 52) #[true, true, true, true, true, true, true, false, false, false] rfl rfl (one_of HT_.out (by kernel_rfl)) (by decide) (fun K hK => ?_)
                        refine Kd.R_lit_step (Kd.int .u8) _ 5 ?hg (N := 52) ?hd (xs := ([(wrap64 (97 + x5_2)) % 256] : List Int)) (inner := [.int .u8 ((wrap64 (97 + x5_2)) % 256)]) (ok := fun _ => True) (okp := fun _ => True) ?hr ?hp (fun _ hk => hk) trivial (Below.refl _ _) (Nat.le_refl _) (by simp) ?_; (case hd => rfl); (case hg => rfl); (case hr => first | (go_simp; done) | (go_simp; rfl)); (case hp => exact (Reps.one (show Kd.M (Kd.int .u8) _ _ _ ((wrap64 (97 + x5_2)) % 256) [.int .u8 ((wrap64 (97 + x5_2)) % 256)] from rfl) (Reps.none _ _)))
                        intro v263 w29 ho30 hb hg_ hnew_
                        clear hg_ hnew_
                        (first | rw [← Ny262.out] at ho30 | (simp only [Int.reduceToNat] at ho30; rw [← Ny262.out] at ho30))
                        have n0_ := Aside0.mk (Kd.R_below (by (with_reducible repeat (first | apply Kd.R_alloc | apply Kd.R_drewN | apply Kd.R_drew)); exact HO_3.out) hb)
                        have n1_ := Aside0.mk (Kd.R_elder' (by (with_reducible repeat (first | apply Kd.R_alloc | apply Kd.R_drewN | apply Kd.R_drew)); exact HO254.out) (Kd.R_base ho30) hb)
                        have n2_ := Aside0.mk (Kd.R_lower (Kd.R_new' ho30 (Kd.R_lt (by (with_reducible repeat (first | apply Kd.R_alloc | apply Kd.R_drewN | apply Kd.R_drew)); exact HO254.out))) (keep_size (w := w) (g := g) (row := none) (by repeat (first | (with_reducible first | exact HK.out | apply KeepBut.set_ | apply keep_drewN | apply keep_drew | apply keep_alloc | refine keep_far ?_ GW255.out _) | exact HK.out))))
                        have n3_ := Aside0.mk (IsS98.below (by repeat (first | (with_reducible first | exact HI0.out | apply IsS98.alloc | apply IsS98.drewN | apply IsS98.drew | apply IsS98.set_1 | apply IsS98.set_2 | refine IsS98.far ?_ NB0_255.out _) | exact HI0.out)) hb)
                        have n4_ := Aside0.mk (blk_below (g := gb255) (o := .cells #[.int .i64 (wrap64 (1 + (Int.tmod x5_2 256))), .string ((⟨#[110]⟩ : ByteArray) ++ (strOfNums y252))] 27 (0, 0)) (by (with_reducible repeat (first | refine blk_drewN ?_ _ | refine blk_drew ?_ | refine blk_alloc ?_ _)); exact BK255.out) hb)
                        have n5_ := Aside0.mk (KeepBut.trans (by repeat (first | (with_reducible first | exact HK.out | apply KeepBut.set_ | apply keep_drewN | apply keep_drew | apply keep_alloc | refine keep_far ?_ GW255.out _) | exact HK.out)) (KeepBut.of_below hb g none) (.inl rfl))
                        have n6_ := Aside0.mk (below_step (by repeat (first | (with_reducible first | exact HB.out | apply below_alloc | apply pw_below_drewN | apply below_drew1 | refine below_set ?_ (IsS98.ge HI0.out) | refine below_set ?_ GE255.out) | exact HB.out)) hb)
                        clear HO_3
                        clear HO254
                        clear HI0
                        clear BK255
                        clear HK
                        clear HB
                        have HO_3 := n0_
                        have HO254 := n1_
                        have HO264 := n2_
                        have HI0 := n3_
                        have BK255 := n4_
                        have HK := n5_
                        have HB := n6_
                        clear n0_ n1_ n2_ n3_ n4_ n5_ n6_
                        clear hb ho30
                        refine hK.out _ _ trivial (fun hHeld => ?_)
                        clear hK K
                        refine norm_ (a' := ?_) ?_ ?_
                        rotate_left
                        · show Act.put _ (some 52) _ = _
                          simp only [Act.put, List.setIfInBounds_toArray, List.set_cons_zero, List.set_cons_succ, i64_w, i32_w]
                          rfl
                        refine one_ (i := 7) (N := some 53) #[true, true, true, true, true, true, true, true, false, false] rfl rfl (one_of HT_.out (by kernel_rfl)) (by decide) (fun K hK => ?_)
                        have hcv31 := own_string (P := Try.prog) Try.underlying25 Try.underlying5 Try.underlying9 (Kd.own_of_R HO264.out)
                        refine value_ (w1 := ?_) (v := ?_) (by rfl) rfl ?_ ?_
                        rotate_left 2
                        · go_simp
                          constructor
                          · rfl
                          · rfl
                        clear hcv31
                        refine hK.out _ _ trivial (fun hHeld => ?_)
                        clear hK K
                        refine norm_ (a' := ?_) ?_ ?_
                        rotate_left
                        · show Act.put _ (some 53) _ = _
                          simp only [Act.put, List.setIfInBounds_toArray, List.set_cons_zero, List.set_cons_succ, i64_w, i32_w]
                          rfl
                        exact norm_ (by simp only [putAll, Act.put, List.setIfInBounds_toArray, List.set_cons_zero, List.set_cons_succ]) (hCont (v263) _ ⟨(by (with_reducible repeat (first | apply Kd.R_alloc | apply Kd.R_drewN | apply Kd.R_drew)); exact Kd.R_mono HO254.out (fun _ hk => hk.2)), (by (with_reducible repeat (first | apply Kd.R_alloc | apply Kd.R_drewN | apply Kd.R_drew)); exact Kd.R_mono HO264.out (fun _ hk => hk.2)), (by (with_reducible repeat (first | apply Kd.R_alloc | apply Kd.R_drewN | apply Kd.R_drew)); exact Kd.R_mono HO_3.out (fun _ hk => hk.2)), (by (with_reducible repeat (first | refine blk_drewN ?_ _ | refine blk_drew ?_ | refine blk_alloc ?_ _)); exact BK255.out), (by repeat (first | (with_reducible first | exact HI0.out | apply IsS98.alloc | apply IsS98.drewN | apply IsS98.drew | apply IsS98.set_1 | apply IsS98.set_2 | refine IsS98.far ?_ NB0_255.out _) | exact HI0.out)), (by repeat (first | (with_reducible first | exact HK.out | apply KeepBut.set_ | apply keep_drewN | apply keep_drew | apply keep_alloc | refine keep_far ?_ GW255.out _) | exact HK.out)), (by repeat (first | (with_reducible first | exact HB.out | apply below_alloc | apply pw_below_drewN | apply below_drew1 | refine below_set ?_ (IsS98.ge HI0.out) | refine below_set ?_ GE255.out) | exact HB.out))⟩)
                      · skip
                        refine Kd.R_lit_step (Kd.int .u8) _ 5 ?hg (N := 52) ?hd (xs := ([(wrap64 (97 + x5_2)) % 256] : List Int)) (inner := [.int .u8 ((wrap64 (97 + x5_2)) % 256)]) (ok := fun _ => True) (okp := fun _ => True) ?hr ?hp (fun _ hk => hk) trivial (Below.refl _ _) (Nat.le_refl _) (by simp) ?_; (case hd => rfl); (case hg => rfl); (case hr => first | (go_simp; done) | (go_simp; rfl)); (case hp => exact (Reps.one (show Kd.M (Kd.int .u8) _ _ _ ((wrap64 (97 + x5_2)) % 256) [.int .u8 ((wrap64 (97 + x5_2)) % 256)] from rfl) (Reps.none _ _)))
                        intro v263 w28 ho29 hb hg_ hnew_
                        clear hg_ hnew_
                        (first | rw [← Ny262.out] at ho29 | (simp only [Int.reduceToNat] at ho29; rw [← Ny262.out] at ho29))
                        have n0_ := Aside0.mk (Kd.R_below (by (with_reducible repeat (first | apply Kd.R_alloc | apply Kd.R_drewN | apply Kd.R_drew)); exact HO_3.out) hb)
                        have n1_ := Aside0.mk (Kd.R_elder' (by (with_reducible repeat (first | apply Kd.R_alloc | apply Kd.R_drewN | apply Kd.R_drew)); exact HO254.out) (Kd.R_base ho29) hb)
                        have n2_ := Aside0.mk (Kd.R_lower (Kd.R_new' ho29 (Kd.R_lt (by (with_reducible repeat (first | apply Kd.R_alloc | apply Kd.R_drewN | apply Kd.R_drew)); exact HO254.out))) (keep_size (w := w) (g := g) (row := none) (by repeat (first | (with_reducible first | exact HK.out | apply KeepBut.set_ | apply keep_drewN | apply keep_drew | apply keep_alloc | refine keep_far ?_ GW255.out _) | exact HK.out))))
                        have n3_ := Aside0.mk (IsS98.below (by repeat (first | (with_reducible first | exact HI0.out | apply IsS98.alloc | apply IsS98.drewN | apply IsS98.drew | apply IsS98.set_1 | apply IsS98.set_2 | refine IsS98.far ?_ NB0_255.out _) | exact HI0.out)) hb)
                        have n4_ := Aside0.mk (blk_below (g := gb255) (o := .cells #[.int .i64 (wrap64 (1 + (Int.tmod x5_2 256))), .string ((⟨#[110]⟩ : ByteArray) ++ (strOfNums y252))] 27 (0, 0)) (by (with_reducible repeat (first | refine blk_drewN ?_ _ | refine blk_drew ?_ | refine blk_alloc ?_ _)); exact BK255.out) hb)
                        have n5_ := Aside0.mk (KeepBut.trans (by repeat (first | (with_reducible first | exact HK.out | apply KeepBut.set_ | apply keep_drewN | apply keep_drew | apply keep_alloc | refine keep_far ?_ GW255.out _) | exact HK.out)) (KeepBut.of_below hb g none) (.inl rfl))
                        have n6_ := Aside0.mk (below_step (by repeat (first | (with_reducible first | exact HB.out | apply below_alloc | apply pw_below_drewN | apply below_drew1 | refine below_set ?_ (IsS98.ge HI0.out) | refine below_set ?_ GE255.out) | exact HB.out)) hb)
                        clear HO_3
                        clear HO254
                        clear HI0
                        clear BK255
                        clear HK
                        clear HB
                        have HO_3 := n0_
                        have HO254 := n1_
                        have HO264 := n2_
                        have HI0 := n3_
                        have BK255 := n4_
                        have HK := n5_
                        have HB := n6_
                        clear n0_ n1_ n2_ n3_ n4_ n5_ n6_
                        clear hb ho29
                        refine hK.out _ _ trivial (fun hHeld => ?_)
                        clear hK K
                        refine norm_ (a' := ?_) ?_ ?_
                        rotate_left
                        · show Act.put _ (some 52) _ = _
                          simp only [Act.put, List.setIfInBounds_toArray, List.set_cons_zero, List.set_cons_succ, i64_w, i32_w]
                          rfl
                        refine two_ (i := 1) (j := 7) (Ni := some 47) (Nj := some 53) #[true, true, false, true, true, true, true, false, false, false] #[true, false, false, true, true, true, true, true, false, false] rfl rfl rfl rfl (two_of HT_.out (by kernel_rfl)) (by decide) (by decide) (fun K hK => ?_) (fun K hK => ?_)
                        · skip
                          refine goes_ Try.func66 (by kernel_rfl) rfl #[.pointer (some ⟨g, 0, none⟩), .int .i64 9] (by rfl) rfl rfl (by (try simp only [List.map_toArray, List.map_cons, List.map_nil]); first | done | rfl | (simp only [List.length_drop, List.length_take]; rfl)) ?_
                          with_reducible refine (spec_l1Next.calls g s0_0 t257 t258 9 t259 t260 t261 w0 _ ?side1 ?side2 A18.out).mono ?_
                          (case side1 => repeat (first | (with_reducible first | exact HI0.out | apply IsS98.alloc | apply IsS98.drewN | apply IsS98.drew | apply IsS98.set_1 | apply IsS98.set_2 | refine IsS98.far ?_ NB0_255.out _) | exact HI0.out))
                          (case side2 => repeat (first | (with_reducible first | exact HB.out | apply below_alloc | apply pw_below_drewN | apply below_drew1 | refine below_set ?_ (IsS98.ge HI0.out) | refine below_set ?_ GE255.out) | exact HB.out))
                          rintro e w30 ⟨rfl, hi, hb, hk⟩
                          refine ⟨_, rfl, ?_⟩
                          have n0_ := Aside0.mk (Kd.R_mono (Kd.R_keep (IsS98.apart (show IsS98 w0 _ g s0_0 t257 t258 from by repeat (first | (with_reducible first | exact HI0.out | apply IsS98.alloc | apply IsS98.drewN | apply IsS98.drew | apply IsS98.set_1 | apply IsS98.set_2 | refine IsS98.far ?_ NB0_255.out _) | exact HI0.out)) (by (with_reducible repeat (first | apply Kd.R_alloc | apply Kd.R_drewN | apply Kd.R_drew)); exact HO_3.out) (by decide)) hk (fun _ h => h.2)) (fun _ h => h.1))
                          have n1_ := Aside0.mk (Kd.R_mono (Kd.R_keep (IsS98.apart (show IsS98 w0 _ g s0_0 t257 t258 from by repeat (first | (with_reducible first | exact HI0.out | apply IsS98.alloc | apply IsS98.drewN | apply IsS98.drew | apply IsS98.set_1 | apply IsS98.set_2 | refine IsS98.far ?_ NB0_255.out _) | exact HI0.out)) (by (with_reducible repeat (first | apply Kd.R_alloc | apply Kd.R_drewN | apply Kd.R_drew)); exact HO254.out) (by decide)) hk (fun _ h => h.2)) (fun _ h => h.1))
                          have n2_ := Aside0.mk (KeepBut.blk hk (g' := gb255) (o := .cells #[.int .i64 (wrap64 (1 + (Int.tmod x5_2 256))), .string ((⟨#[110]⟩ : ByteArray) ++ (strOfNums y252))] 27 (0, 0)) (by (with_reducible repeat (first | refine blk_drewN ?_ _ | refine blk_drew ?_ | refine blk_alloc ?_ _)); exact BK255.out) NB255_0.out (by simp))
                          have n3_ := Aside0.mk (Kd.R_mono (Kd.R_keep (IsS98.apart (show IsS98 w0 _ g s0_0 t257 t258 from by repeat (first | (with_reducible first | exact HI0.out | apply IsS98.alloc | apply IsS98.drewN | apply IsS98.drew | apply IsS98.set_1 | apply IsS98.set_2 | refine IsS98.far ?_ NB0_255.out _) | exact HI0.out)) (by (with_reducible repeat (first | apply Kd.R_alloc | apply Kd.R_drewN | apply Kd.R_drew)); exact HO264.out) (by decide)) hk (fun _ h => h.2)) (fun _ h => h.1))
                          have n4_ := Aside0.mk (KeepBut.trans (by repeat (first | (with_reducible first | exact HK.out | apply KeepBut.set_ | apply keep_drewN | apply keep_drew | apply keep_alloc | refine keep_far ?_ GW255.out _) | exact HK.out)) hk (.inl rfl))
                          have n5_ := Aside0.mk (hb)
                          have n6_ := Aside0.mk (hi)
                          clear HO_3
                          clear HO254
                          clear BK255
                          clear HO264
                          clear HK
                          clear HB
                          clear HI0
                          have HO_3 := n0_
                          have HO254 := n1_
                          have BK255 := n2_
                          have HO264 := n3_
                          have HK := n4_
                          have HB := n5_
                          have HI0 := n6_
                          clear n0_ n1_ n2_ n3_ n4_ n5_ n6_
                          (try clear hb)
                          (try clear hb2)
                          (try clear hk)
                          (try clear hi)
                          refine hK.out _ _ trivial (fun hHeld => ?_)
                          clear hK K
                          refine norm_ (a' := ?_) ?_ ?_
                          rotate_left
                          · show Act.put _ (some 47) _ = _
                            simp only [Act.put, List.setIfInBounds_toArray, List.set_cons_zero, List.set_cons_succ, i64_w, i32_w]
                            rfl
                          refine pure_ (i := 2) (N := some 48) (v := ?_) (a' := ?_) #[true, true, true, true, true, true, true, false, false, false] rfl rfl (any_of HT_.out (by kernel_rfl)) (fun _ _ _ h => h) (Or.inl ⟨by rfl, ?_⟩) ?_ ?_
                          rotate_left
                          · intro w'
                            go_simp
                            with_reducible rfl
                          rotate_left
                          · simp only [Act.put, List.setIfInBounds_toArray, List.set_cons_zero, List.set_cons_succ, i64_w, i32_w]
                            rfl
                          refine one_ (i := 7) (N := some 53) #[true, true, true, true, true, true, true, true, false, false] rfl rfl (one_of HT_.out (by kernel_rfl)) (by decide) (fun K hK => ?_)
                          have hcv31 := own_string (P := Try.prog) Try.underlying25 Try.underlying5 Try.underlying9 (Kd.own_of_R HO264.out)
                          refine value_ (w1 := ?_) (v := ?_) (by rfl) rfl ?_ ?_
                          rotate_left 2
                          · go_simp
                            constructor
                            · rfl
                            · rfl
                          clear hcv31
                          refine hK.out _ _ trivial (fun hHeld => ?_)
                          clear hK K
                          refine norm_ (a' := ?_) ?_ ?_
                          rotate_left
                          · show Act.put _ (some 53) _ = _
                            simp only [Act.put, List.setIfInBounds_toArray, List.set_cons_zero, List.set_cons_succ, i64_w, i32_w]
                            rfl
                          exact norm_ (by simp only [putAll, Act.put, List.setIfInBounds_toArray, List.set_cons_zero, List.set_cons_succ]) (hCont (v263) _ ⟨(by (with_reducible repeat (first | apply Kd.R_alloc | apply Kd.R_drewN | apply Kd.R_drew)); exact Kd.R_mono HO254.out (fun _ hk => hk.2)), (by (with_reducible repeat (first | apply Kd.R_alloc | apply Kd.R_drewN | apply Kd.R_drew)); exact Kd.R_mono HO264.out (fun _ hk => hk.2)), (by (with_reducible repeat (first | apply Kd.R_alloc | apply Kd.R_drewN | apply Kd.R_drew)); exact Kd.R_mono HO_3.out (fun _ hk => hk.2)), (by (with_reducible repeat (first | refine blk_drewN ?_ _ | refine blk_drew ?_ | refine blk_alloc ?_ _)); exact BK255.out), (by repeat (first | (with_reducible first | exact HI0.out | apply IsS98.alloc | apply IsS98.drewN | apply IsS98.drew | apply IsS98.set_1 | apply IsS98.set_2 | refine IsS98.far ?_ NB0_255.out _) | exact HI0.out)), (by repeat (first | (with_reducible first | exact HK.out | apply KeepBut.set_ | apply keep_drewN | apply keep_drew | apply keep_alloc | refine keep_far ?_ GW255.out _) | exact HK.out)), (by repeat (first | (with_reducible first | exact HB.out | apply below_alloc | apply pw_below_drewN | apply below_drew1 | refine below_set ?_ (IsS98.ge HI0.out) | refine below_set ?_ GE255.out) | exact HB.out))⟩)
                        · skip
                          have hcv30 := own_string (P := Try.prog) Try.underlying25 Try.underlying5 Try.underlying9 (Kd.own_of_R HO264.out)
                          refine value_ (w1 := ?_) (v := ?_) (by rfl) rfl ?_ ?_
                          rotate_left 2
                          · go_simp
                            constructor
                            · rfl
                            · rfl
                          clear hcv30
                          refine hK.out _ _ trivial (fun hHeld => ?_)
                          clear hK K
                          refine norm_ (a' := ?_) ?_ ?_
                          rotate_left
                          · show Act.put _ (some 53) _ = _
                            simp only [Act.put, List.setIfInBounds_toArray, List.set_cons_zero, List.set_cons_succ, i64_w, i32_w]
                            rfl
                          refine one_ (i := 1) (N := some 47) #[true, true, false, true, true, true, true, true, false, false] rfl rfl (one_of HT_.out (by kernel_rfl)) (by decide) (fun K hK => ?_)
                          refine goes_ Try.func66 (by kernel_rfl) rfl #[.pointer (some ⟨g, 0, none⟩), .int .i64 9] (by rfl) rfl rfl (by (try simp only [List.map_toArray, List.map_cons, List.map_nil]); first | done | rfl | (simp only [List.length_drop, List.length_take]; rfl)) ?_
                          with_reducible refine (spec_l1Next.calls g s0_0 t257 t258 9 t259 t260 t261 w0 _ ?side1 ?side2 A18.out).mono ?_
                          (case side1 => repeat (first | (with_reducible first | exact HI0.out | apply IsS98.alloc | apply IsS98.drewN | apply IsS98.drew | apply IsS98.set_1 | apply IsS98.set_2 | refine IsS98.far ?_ NB0_255.out _) | exact HI0.out))
                          (case side2 => repeat (first | (with_reducible first | exact HB.out | apply below_alloc | apply pw_below_drewN | apply below_drew1 | refine below_set ?_ (IsS98.ge HI0.out) | refine below_set ?_ GE255.out) | exact HB.out))
                          rintro e w31 ⟨rfl, hi, hb, hk⟩
                          refine ⟨_, rfl, ?_⟩
                          have n0_ := Aside0.mk (Kd.R_mono (Kd.R_keep (IsS98.apart (show IsS98 w0 _ g s0_0 t257 t258 from by repeat (first | (with_reducible first | exact HI0.out | apply IsS98.alloc | apply IsS98.drewN | apply IsS98.drew | apply IsS98.set_1 | apply IsS98.set_2 | refine IsS98.far ?_ NB0_255.out _) | exact HI0.out)) (by (with_reducible repeat (first | apply Kd.R_alloc | apply Kd.R_drewN | apply Kd.R_drew)); exact HO_3.out) (by decide)) hk (fun _ h => h.2)) (fun _ h => h.1))
                          have n1_ := Aside0.mk (Kd.R_mono (Kd.R_keep (IsS98.apart (show IsS98 w0 _ g s0_0 t257 t258 from by repeat (first | (with_reducible first | exact HI0.out | apply IsS98.alloc | apply IsS98.drewN | apply IsS98.drew | apply IsS98.set_1 | apply IsS98.set_2 | refine IsS98.far ?_ NB0_255.out _) | exact HI0.out)) (by (with_reducible repeat (first | apply Kd.R_alloc | apply Kd.R_drewN | apply Kd.R_drew)); exact HO254.out) (by decide)) hk (fun _ h => h.2)) (fun _ h => h.1))
                          have n2_ := Aside0.mk (KeepBut.blk hk (g' := gb255) (o := .cells #[.int .i64 (wrap64 (1 + (Int.tmod x5_2 256))), .string ((⟨#[110]⟩ : ByteArray) ++ (strOfNums y252))] 27 (0, 0)) (by (with_reducible repeat (first | refine blk_drewN ?_ _ | refine blk_drew ?_ | refine blk_alloc ?_ _)); exact BK255.out) NB255_0.out (by simp))
                          have n3_ := Aside0.mk (Kd.R_mono (Kd.R_keep (IsS98.apart (show IsS98 w0 _ g s0_0 t257 t258 from by repeat (first | (with_reducible first | exact HI0.out | apply IsS98.alloc | apply IsS98.drewN | apply IsS98.drew | apply IsS98.set_1 | apply IsS98.set_2 | refine IsS98.far ?_ NB0_255.out _) | exact HI0.out)) (by (with_reducible repeat (first | apply Kd.R_alloc | apply Kd.R_drewN | apply Kd.R_drew)); exact HO264.out) (by decide)) hk (fun _ h => h.2)) (fun _ h => h.1))
                          have n4_ := Aside0.mk (KeepBut.trans (by repeat (first | (with_reducible first | exact HK.out | apply KeepBut.set_ | apply keep_drewN | apply keep_drew | apply keep_alloc | refine keep_far ?_ GW255.out _) | exact HK.out)) hk (.inl rfl))
                          have n5_ := Aside0.mk (hb)
                          have n6_ := Aside0.mk (hi)
                          clear HO_3
                          clear HO254
                          clear BK255
                          clear HO264
                          clear HK
                          clear HB
                          clear HI0
                          have HO_3 := n0_
                          have HO254 := n1_
                          have BK255 := n2_
                          have HO264 := n3_
                          have HK := n4_
                          have HB := n5_
                          have HI0 := n6_
                          clear n0_ n1_ n2_ n3_ n4_ n5_ n6_
                          (try clear hb)
                          (try clear hb2)
                          (try clear hk)
                          (try clear hi)
                          refine hK.out _ _ trivial (fun hHeld => ?_)
                          clear hK K
                          refine norm_ (a' := ?_) ?_ ?_
                          rotate_left
                          · show Act.put _ (some 47) _ = _
                            simp only [Act.put, List.setIfInBounds_toArray, List.set_cons_zero, List.set_cons_succ, i64_w, i32_w]
                            rfl
                          refine pure_ (i := 2) (N := some 48) (v := ?_) (a' := ?_) #[true, true, true, true, true, true, true, true, false, false] rfl rfl (any_of HT_.out (by kernel_rfl)) (fun _ _ _ h => h) (Or.inl ⟨by rfl, ?_⟩) ?_ ?_
                          rotate_left
                          · intro w'
                            go_simp
                            with_reducible rfl
                          rotate_left
                          · simp only [Act.put, List.setIfInBounds_toArray, List.set_cons_zero, List.set_cons_succ, i64_w, i32_w]
                            rfl
                          exact norm_ (by simp only [putAll, Act.put, List.setIfInBounds_toArray, List.set_cons_zero, List.set_cons_succ]) (hCont (v263) _ ⟨(by (with_reducible repeat (first | apply Kd.R_alloc | apply Kd.R_drewN | apply Kd.R_drew)); exact Kd.R_mono HO254.out (fun _ hk => hk.2)), (by (with_reducible repeat (first | apply Kd.R_alloc | apply Kd.R_drewN | apply Kd.R_drew)); exact Kd.R_mono HO264.out (fun _ hk => hk.2)), (by (with_reducible repeat (first | apply Kd.R_alloc | apply Kd.R_drewN | apply Kd.R_drew)); exact Kd.R_mono HO_3.out (fun _ hk => hk.2)), (by (with_reducible repeat (first | refine blk_drewN ?_ _ | refine blk_drew ?_ | refine blk_alloc ?_ _)); exact BK255.out), (by repeat (first | (with_reducible first | exact HI0.out | apply IsS98.alloc | apply IsS98.drewN | apply IsS98.drew | apply IsS98.set_1 | apply IsS98.set_2 | refine IsS98.far ?_ NB0_255.out _) | exact HI0.out)), (by repeat (first | (with_reducible first | exact HK.out | apply KeepBut.set_ | apply keep_drewN | apply keep_drew | apply keep_alloc | refine keep_far ?_ GW255.out _) | exact HK.out)), (by repeat (first | (with_reducible first | exact HB.out | apply below_alloc | apply pw_below_drewN | apply below_drew1 | refine below_set ?_ (IsS98.ge HI0.out) | refine below_set ?_ GE255.out) | exact HB.out))⟩)
                    rintro v263 w32 ⟨h0_, h1_, h2_, h3_, h4_, h5_, h6_⟩
                    have n0_ : Aside0 (Kd.R (Kd.int .u8) 5 w32 w.heap.size (fun k_ => some k_ ≠ (v263 : Value).ownBlock) v253 y252) := ⟨h0_⟩
                    have n1_ : Aside0 (Kd.R (Kd.int .u8) 5 w32 w.heap.size (fun k_ => some k_ ≠ (v253 : Value).ownBlock) v263 y262) := ⟨h1_⟩
                    have n2_ : Aside0 (Kd.R k27 27 w32 w.heap.size (fun k_ => k_ ≠ gb255) u3 x3_2) := ⟨h2_⟩
                    have n3_ : Aside0 (w32.heap[gb255]? = some (.cells #[.int .i64 (wrap64 (1 + (Int.tmod x5_2 256))), .string ((⟨#[110]⟩ : ByteArray) ++ (strOfNums y252))] 27 (0, 0))) := ⟨h3_⟩
                    have n4_ : Aside0 (IsS98 w0 w32 g s0_0 t260 t261) := ⟨h4_⟩
                    have n5_ : Aside0 (KeepBut w w32 g none) := ⟨h5_⟩
                    have n6_ : Aside0 (Below w0.heap.size w0 w32) := ⟨h6_⟩
                    clear HO_3
                    clear HO254
                    clear BK255
                    clear HI0
                    clear HK
                    clear HB
                    clear h0_ h1_ h2_ h3_ h4_ h5_ h6_
                    have HO254 := n0_
                    have HO264 := n1_
                    have HO_3 := n2_
                    have BK255 := n3_
                    have HI0 := n4_
                    have HK := n5_
                    have HB := n6_
                    clear n0_ n1_ n2_ n3_ n4_ n5_ n6_
                    have hHeld := trivial
                    refine norm_ (a' := ?_) ?_ ?_
                    rotate_left
                    · simp only [putAll, Act.put, List.setIfInBounds_toArray, List.set_cons_zero, List.set_cons_succ]
                      rfl
                    refine pure_ (i := 8) (N := some 54) (v := ?_) (a' := ?_) #[true, true, true, true, true, true, true, true, true, false] rfl rfl (any_of HT_.out (by kernel_rfl)) (fun _ _ _ h => h) (Or.inl ⟨by rfl, ?_⟩) ?_ ?_
                    rotate_left
                    · intro w'
                      go_simp
                      with_reducible rfl
                    rotate_left
                    · simp only [Act.put, List.setIfInBounds_toArray, List.set_cons_zero, List.set_cons_succ, i64_w, i32_w]
                      rfl
                    refine one_ (i := 9) (N := none) #[true, true, true, true, true, true, true, true, true, true] rfl rfl (one_of HT_.out (by kernel_rfl)) (by decide) (fun K hK => ?_)
                    have hs33 : w32.cell? ⟨gb255, 0, none⟩ = some (.int .i64 (wrap64 (1 + (Int.tmod x5_2 256)))) := (blk_cell BK255.out 0).trans rfl
                    have hfs33 := blk_frozen BK255.out 0
                    have hs34 : w32.cell? ⟨gb255, 1, none⟩ = some (.string ((⟨#[110]⟩ : ByteArray) ++ (strOfNums y252))) := (blk_cell BK255.out 1).trans rfl
                    have hfs34 := blk_frozen BK255.out 1
                    refine skip_ (w1 := ?_) (by rfl) rfl ?_ ?_
                    rotate_left
                    · go_simp
                      rfl
                    refine hK.out _ _ trivial (fun hHeld => ?_)
                    clear hK K
                    refine done_ (done_of HT_.out (by kernel_rfl)) ?_
                    have hcz35_0 : w32.cell? ⟨gb255, 0, none⟩ = some (.int .i64 (wrap64 (1 + (Int.tmod x5_2 256)))) := (blk_cell BK255.out 0).trans rfl
                    have hcz35_1 : w32.cell? ⟨gb255, 1, none⟩ = some (.string ((⟨#[110]⟩ : ByteArray) ++ (strOfNums y252))) := (blk_cell BK255.out 1).trans rfl
                    have hfz35_0 := blk_frozen BK255.out 0
                    have hfz35_1 := blk_frozen BK255.out 1
                    try go_wp2_with (first | ((with_reducible refine gate_builtin (b := .append) (xs := #[.tmp 55, .tmp 57]) rfl ?_); at_builtin; refine Kd.R_append k27 w.heap.size rfl (.tmp 55) (.tmp 57) 41 27 (.agg #[(.int .i64 0), (.string ⟨#[]⟩)]) 24 rfl Try.underlying41 info27 rfl (by decide) (by omega) u3 x3_2 (⟨wrap64 (1 + t259), strOfNums y262⟩ : S27) [.int .i64 (wrap64 (1 + t259)), .string (strOfNums y262)] (fun k_ => k_ ≠ gb255) (fun _ => False) rfl (by first | (go_simp; done) | (go_simp; rfl)) ?aP (fun _ hk => hk.elim) ?aF ?aO (Below.refl _ _) ?aS ?aL ?_; (case aP => exact k27_mkM _ _ _ (⟨wrap64 (1 + t259), strOfNums y262⟩ : S27)); (case aF => exact (fun k_ hk => Kd.freshB (g := gb255) (o := .cells #[.int .i64 (wrap64 (1 + t259)), .string (strOfNums y262)] 27 (0, 0)) (by (with_reducible repeat (first | refine blk_drewN ?_ _ | refine blk_drew ?_ | refine blk_alloc ?_ _)); refine blk_put (cs := #[.int .i64 (wrap64 (1 + t259)), .string ((⟨#[110]⟩ : ByteArray) ++ (strOfNums y252))]) ?_ 1 _ rfl; (with_reducible repeat (first | refine blk_drewN ?_ _ | refine blk_drew ?_ | refine blk_alloc ?_ _)); refine blk_put (cs := #[.int .i64 (wrap64 (1 + (Int.tmod x5_2 256))), .string ((⟨#[110]⟩ : ByteArray) ++ (strOfNums y252))]) ?_ 0 _ rfl; (with_reducible repeat (first | refine blk_drewN ?_ _ | refine blk_drew ?_ | refine blk_alloc ?_ _)); exact BK255.out) k_ hk)); (case aO => exact (by (with_reducible repeat (first | apply Kd.R_alloc | apply Kd.R_drewN | apply Kd.R_drew)); exact Kd.R_mono (Kd.R_far (p := ⟨gb255, 1, none⟩) (Kd.R_far (p := ⟨gb255, 0, none⟩) (Kd.R_mono HO_3.out (fun k_ hk => (⟨hk, hk⟩ : _ ∧ k_ ≠ gb255))) (fun _ hk => hk.2) (.int .i64 (wrap64 (1 + t259)))) (fun _ hk => hk.2) (.string (strOfNums y262))) (fun _ hk => hk.1))); (case aS => exact (keep_size (w := w) (g := g) (row := none) (by repeat (first | (with_reducible first | exact HK.out | apply KeepBut.set_ | apply keep_drewN | apply keep_drew | apply keep_alloc | refine keep_far ?_ GW255.out _) | exact HK.out)))); (case aL => have := LMc19.out; omega); intro v266 w36 ho hb hg hat; rw [← Ny265.out] at ho; have n0_ := Aside0.mk (IsS98.grown (by first | exact HI0.out | exact IsS98.far (p := ⟨gb255, 1, none⟩) (IsS98.far (p := ⟨gb255, 0, none⟩) HI0.out NB0_255.out _) NB0_255.out _ | repeat (first | (with_reducible first | exact HI0.out | apply IsS98.alloc | apply IsS98.drewN | apply IsS98.drew | apply IsS98.set_1 | apply IsS98.set_2 | refine IsS98.far ?_ NB0_255.out _) | exact HI0.out)) hg (IsS98.own_ne HI0.out HO_3.out (by decide))); have n1_ := Aside0.mk (Kd.R_over' (by (with_reducible repeat (first | apply Kd.R_alloc | apply Kd.R_drewN | apply Kd.R_drew)); exact (Kd.R_mono (Kd.R_far (p := ⟨gb255, 1, none⟩) (Kd.R_far (p := ⟨gb255, 0, none⟩) (Kd.R_types HO254.out BK255.out (by decide)) (fun _ hk => hk.2) (.int .i64 (wrap64 (1 + t259)))) (fun _ hk => hk.2) (.string (strOfNums y262))) (fun _ h_ => h_.1))) (Kd.R_typed (by (with_reducible repeat (first | apply Kd.R_alloc | apply Kd.R_drewN | apply Kd.R_drew)); exact (Kd.R_mono (Kd.R_far (p := ⟨gb255, 1, none⟩) (Kd.R_far (p := ⟨gb255, 0, none⟩) (Kd.R_mono HO_3.out (fun k_ hk => (⟨hk, hk⟩ : _ ∧ k_ ≠ gb255))) (fun _ hk => hk.2) (.int .i64 (wrap64 (1 + t259)))) (fun _ hk => hk.2) (.string (strOfNums y262))) (fun _ h_ => h_.1)))) (by decide) hg); have n2_ := Aside0.mk (blk_grown (g := gb255) (o := .cells #[.int .i64 (wrap64 (1 + t259)), .string (strOfNums y262)] 27 (0, 0)) (by (with_reducible repeat (first | refine blk_drewN ?_ _ | refine blk_drew ?_ | refine blk_alloc ?_ _)); refine blk_put (cs := #[.int .i64 (wrap64 (1 + t259)), .string ((⟨#[110]⟩ : ByteArray) ++ (strOfNums y252))]) ?_ 1 _ rfl; (with_reducible repeat (first | refine blk_drewN ?_ _ | refine blk_drew ?_ | refine blk_alloc ?_ _)); refine blk_put (cs := #[.int .i64 (wrap64 (1 + (Int.tmod x5_2 256))), .string ((⟨#[110]⟩ : ByteArray) ++ (strOfNums y252))]) ?_ 0 _ rfl; (with_reducible repeat (first | refine blk_drewN ?_ _ | refine blk_drew ?_ | refine blk_alloc ?_ _)); exact BK255.out) hg (Kd.R_away HO_3.out (fun _ hk => hk))); have n3_ := Aside0.mk (Kd.R_over' (by (with_reducible repeat (first | apply Kd.R_alloc | apply Kd.R_drewN | apply Kd.R_drew)); exact (Kd.R_mono (Kd.R_far (p := ⟨gb255, 1, none⟩) (Kd.R_far (p := ⟨gb255, 0, none⟩) (Kd.R_types HO264.out BK255.out (by decide)) (fun _ hk => hk.2) (.int .i64 (wrap64 (1 + t259)))) (fun _ hk => hk.2) (.string (strOfNums y262))) (fun _ h_ => h_.1))) (Kd.R_typed (by (with_reducible repeat (first | apply Kd.R_alloc | apply Kd.R_drewN | apply Kd.R_drew)); exact (Kd.R_mono (Kd.R_far (p := ⟨gb255, 1, none⟩) (Kd.R_far (p := ⟨gb255, 0, none⟩) (Kd.R_mono HO_3.out (fun k_ hk => (⟨hk, hk⟩ : _ ∧ k_ ≠ gb255))) (fun _ hk => hk.2) (.int .i64 (wrap64 (1 + t259)))) (fun _ hk => hk.2) (.string (strOfNums y262))) (fun _ h_ => h_.1)))) (by decide) hg); have n4_ := Aside0.mk (below_weaken (by repeat (first | (with_reducible first | exact HB.out | apply below_alloc | apply pw_below_drewN | apply below_drew1 | refine below_set ?_ (IsS98.ge HI0.out) | refine below_set ?_ GE255.out) | exact HB.out)) HL.out hb); have n5_ := Aside0.mk (KeepBut.trans (by repeat (first | (with_reducible first | exact HK.out | apply KeepBut.set_ | apply keep_drewN | apply keep_drew | apply keep_alloc | refine keep_far ?_ GW255.out _) | exact HK.out)) (KeepBut.of_grown hg g) (Kd.R_base2 HO_3.out)); have n6_ := Aside0.mk (ho); clear HI0; clear HO254; clear BK255; clear HO264; clear HB; clear HK; clear HO_3; have HI0 := n0_; have HO254 := n1_; have BK255 := n2_; have HO264 := n3_; have HB := n4_; have HK := n5_; have HO267 := n6_; clear n0_ n1_ n2_ n3_ n4_ n5_ n6_; clear ho hb hg hat))
                    go_roundg k2
                    case measure => have := HJ3.out; have := HK2.out; omega
                    case rel => exact ⟨(y265), (wrap64 (x5_2 + 1)), (t260), (t261), (by first | rfl | (simp; done) | (simp [*]; done)), H', ⟨by have := HJ3.out; have := HK2.out; omega⟩, ⟨by (with_reducible repeat (first | apply Kd.R_alloc | apply Kd.R_drewN | apply Kd.R_drew)); exact Kd.R_mono HO267.out (fun _ hk => trivial)⟩, ⟨by repeat (first | (with_reducible first | exact HI0.out | apply IsS98.alloc | apply IsS98.drewN | apply IsS98.drew | apply IsS98.set_1 | apply IsS98.set_2 | refine IsS98.far ?_ NB0_255.out _) | exact HI0.out)⟩, ⟨by repeat (first | (with_reducible first | exact HK.out | apply KeepBut.set_ | apply keep_drewN | apply keep_drew | apply keep_alloc | refine keep_far ?_ GW255.out _) | exact HK.out)⟩, ⟨by repeat (first | (with_reducible first | exact HB.out | apply below_alloc | apply pw_below_drewN | apply below_drew1 | refine below_set ?_ (IsS98.ge HI0.out) | refine below_set ?_ GE255.out) | exact HB.out)⟩⟩
                  · rw [if_neg c19] at H
                    exact absurd H (by simp)
                · rw [if_neg c17] at H
                  have c17b0 : decide (x4_3 < 20) = false := decide_eq_false c17
                  clear c17
                  by_cases c37 : x3_2.length < 5864062014805
                  · rw [if_pos c37] at H
                    have LMc37 := Aside0.mk c37
                    clear c37
                    obtain ⟨y268, hy268⟩ : ∃ y_ : List (S27), y_ = (x3_2 ++ [(⟨wrap64 (1 + (Int.tmod x5_2 256)), (⟨#[110]⟩ : ByteArray) ++ (strOfNums y252)⟩ : S27)]) := ⟨_, rfl⟩
                    replace H : (spec_l10DrawEntries.l0 k2 y268 x4_3 (wrap64 (x5_2 + 1)) s0_0 t257 t258) = some (r1, r2, r3) := by first | (rw [hy268]; with_reducible exact H) | (have H2_ := (Option.bind_some _ _).symm.trans H; rw [hy268]; with_reducible exact H2_) | (have H2_ := (Option.bind_some _ _).symm.trans H; with_reducible exact H2_) | with_reducible exact H | (rw [hy268]; exact H) | exact H
                    have Ny268 := Aside0.mk hy268
                    clear hy268
                    have H' := Aside0.mk H
                    clear H
                    go_wp2_with (first | ((with_reducible refine gate_dst (N := 36) rfl ?_); refine Kd.R_lit (Kd.int .u8) _ 5 ?hg (N := 36) ?hd (xs := ([(wrap64 (40 + (wrap64 (Int.tdiv x5_2 20)))) % 256, (wrap64 (60 + (Int.tmod x5_2 20))) % 256] : List Int)) (inner := [.int .u8 ((wrap64 (40 + (wrap64 (Int.tdiv x5_2 20)))) % 256), .int .u8 ((wrap64 (60 + (Int.tmod x5_2 20))) % 256)]) (ok := fun _ => True) (okp := fun _ => True) ?hr ?hp (fun _ hk => hk) trivial (Below.refl _ _) (Nat.le_refl _) (by simp) ?_; (case hd => rfl); (case hg => rfl); (case hr => first | (go_simp; done) | (go_simp; rfl)); (case hp => exact (Reps.one (show Kd.M (Kd.int .u8) _ _ _ ((wrap64 (40 + (wrap64 (Int.tdiv x5_2 20)))) % 256) [.int .u8 ((wrap64 (40 + (wrap64 (Int.tdiv x5_2 20)))) % 256)] from rfl) (Reps.one (show Kd.M (Kd.int .u8) _ _ _ ((wrap64 (60 + (Int.tmod x5_2 20))) % 256) [.int .u8 ((wrap64 (60 + (Int.tmod x5_2 20))) % 256)] from rfl) (Reps.none _ _)))); intro v253 w38 ho39 hb hg_ hnew_; clear hg_ hnew_; (first | rw [← Ny252.out] at ho39 | (simp only [Int.reduceToNat] at ho39; rw [← Ny252.out] at ho39)); have n0_ := Aside0.mk (Kd.R_below (by (with_reducible repeat (first | apply Kd.R_alloc | apply Kd.R_drewN | apply Kd.R_drew)); exact HO_3.out) hb); have n1_ := Aside0.mk (Kd.R_lower ho39 (keep_size (w := w) (g := g) (row := none) (by repeat (first | (with_reducible first | exact HK.out | apply KeepBut.set_ | apply keep_drewN | apply keep_drew | apply keep_alloc) | exact HK.out)))); have n2_ := Aside0.mk (IsS98.below (by repeat (first | (with_reducible first | exact HI0.out | apply IsS98.alloc | apply IsS98.drewN | apply IsS98.drew | apply IsS98.set_1 | apply IsS98.set_2) | exact HI0.out)) hb); have n3_ := Aside0.mk (KeepBut.trans (by repeat (first | (with_reducible first | exact HK.out | apply KeepBut.set_ | apply keep_drewN | apply keep_drew | apply keep_alloc) | exact HK.out)) (KeepBut.of_below hb g none) (.inl rfl)); have n4_ := Aside0.mk (below_step (by repeat (first | (with_reducible first | exact HB.out | apply below_alloc | apply pw_below_drewN | apply below_drew1 | refine below_set ?_ (IsS98.ge HI0.out)) | exact HB.out)) hb); clear HO_3; clear HI0; clear HK; clear HB; have HO_3 := n0_; have HO254 := n1_; have HI0 := n2_; have HK := n3_; have HB := n4_; clear n0_ n1_ n2_ n3_ n4_; clear hb ho39; have hcv40 := own_string (P := Try.prog) Try.underlying25 Try.underlying5 Try.underlying9 (Kd.own_of_R HO254.out)) | ((with_reducible refine gate_dst (N := 6) rfl ?_); refine box_event ?hg (N := 6) ?hd (cs := #[.int .i64 0, .string (⟨#[]⟩ : ByteArray)]) (t := 27) ?hr ?_; (case hd => rfl); (case hg => rfl); (case hr => first | (go_simp; done) | (go_simp; rfl)); intro gb255 hg w41 hbox hb; have n0_ := Aside0.mk (Kd.R_below (Kd.R_elderB (by (with_reducible repeat (first | apply Kd.R_alloc | apply Kd.R_drewN | apply Kd.R_drew)); exact HO_3.out) gb255 (Nat.le_of_eq hg.symm)) hb); have n1_ := Aside0.mk (Kd.R_below (by (with_reducible repeat (first | apply Kd.R_alloc | apply Kd.R_drewN | apply Kd.R_drew)); exact HO254.out) hb); have n2_ := Aside0.mk (IsS98.below (by repeat (first | (with_reducible first | exact HI0.out | apply IsS98.alloc | apply IsS98.drewN | apply IsS98.drew | apply IsS98.set_1 | apply IsS98.set_2) | exact HI0.out)) hb); have n3_ := Aside0.mk (KeepBut.trans (by repeat (first | (with_reducible first | exact HK.out | apply KeepBut.set_ | apply keep_drewN | apply keep_drew | apply keep_alloc) | exact HK.out)) (KeepBut.of_below hb g none) (.inl rfl)); have n4_ := Aside0.mk (below_step (by repeat (first | (with_reducible first | exact HB.out | apply below_alloc | apply pw_below_drewN | apply below_drew1 | refine below_set ?_ (IsS98.ge HI0.out)) | exact HB.out)) hb); have n5_ := Aside0.mk (hbox); have n6_ := Aside0.mk ((by rw [hg]; exact (keep_size (w := w) (g := g) (row := none) (by repeat (first | (with_reducible first | exact HK.out | apply KeepBut.set_ | apply keep_drewN | apply keep_drew | apply keep_alloc) | exact HK.out))) : w.heap.size ≤ gb255)); have n7_ := Aside0.mk ((Nat.le_trans HW0.out (by rw [hg]; exact (keep_size (w := w) (g := g) (row := none) (by repeat (first | (with_reducible first | exact HK.out | apply KeepBut.set_ | apply keep_drewN | apply keep_drew | apply keep_alloc) | exact HK.out))) : w.heap.size ≤ gb255) : w0.heap.size ≤ gb255)); have n8_ := Aside0.mk ((by rw [hg]; exact Nat.ne_of_lt (IsS98.lt (show IsS98 w0 _ g s0_0 x1001_2 x1002_2 from by repeat (first | (with_reducible first | exact HI0.out | apply IsS98.alloc | apply IsS98.drewN | apply IsS98.drew | apply IsS98.set_1 | apply IsS98.set_2) | exact HI0.out))) : g ≠ gb255)); have n9_ := Aside0.mk ((by rw [hg]; exact Nat.ne_of_gt (IsS98.lt (show IsS98 w0 _ g s0_0 x1001_2 x1002_2 from by repeat (first | (with_reducible first | exact HI0.out | apply IsS98.alloc | apply IsS98.drewN | apply IsS98.drew | apply IsS98.set_1 | apply IsS98.set_2) | exact HI0.out))) : gb255 ≠ g)); clear HO_3; clear HO254; clear HI0; clear HK; clear HB; have HO_3 := n0_; have HO254 := n1_; have HI0 := n2_; have HK := n3_; have HB := n4_; have BK255 := n5_; have GW255 := n6_; have GE255 := n7_; have NB0_255 := n8_; have NB255_0 := n9_; clear n0_ n1_ n2_ n3_ n4_ n5_ n6_ n7_ n8_ n9_; clear hb hbox hg; have hnb42 := NB255_0.out; have hnc42 := NB0_255.out; have hcz43_0 : w41.cell? ⟨gb255, 0, none⟩ = some (.int .i64 0) := (blk_cell BK255.out 0).trans rfl; have hcz43_1 : w41.cell? ⟨gb255, 1, none⟩ = some (.string (⟨#[]⟩ : ByteArray)) := (blk_cell BK255.out 1).trans rfl; have hfz43_0 := blk_frozen BK255.out 0; have hfz43_1 := blk_frozen BK255.out 1) | ((with_reducible refine gate_callee (f := 76) rfl ?_); refine goesL_ (some 41) rfl rfl Try.func76 (by kernel_rfl) rfl #[.pointer (some ⟨g, 0, none⟩), .int .i64 3] rfl (by (try simp only [List.map_toArray, List.map_cons, List.map_nil]); first | done | rfl | (simp only [List.length_drop, List.length_take]; rfl)) ?_; (with_reducible refine (spec_l1Chance.calls g s0_0 x1001_2 x1002_2 3 true t257 t258 w0 _ ?side1 ?side2 A15.out).mono ?_); (case side1 => repeat (first | (with_reducible first | exact HI0.out | apply IsS98.alloc | apply IsS98.drewN | apply IsS98.drew | apply IsS98.set_1 | apply IsS98.set_2 | refine IsS98.far ?_ NB0_255.out _) | exact HI0.out)); (case side2 => repeat (first | (with_reducible first | exact HB.out | apply below_alloc | apply pw_below_drewN | apply below_drew1 | refine below_set ?_ (IsS98.ge HI0.out) | refine below_set ?_ GE255.out) | exact HB.out)); rintro e w44 ⟨rfl, hi, hb, hk⟩; refine ⟨_, rfl, ?_⟩; have n0_ := Aside0.mk (Kd.R_mono (Kd.R_keep (IsS98.apart (show IsS98 w0 _ g s0_0 x1001_2 x1002_2 from by repeat (first | (with_reducible first | exact HI0.out | apply IsS98.alloc | apply IsS98.drewN | apply IsS98.drew | apply IsS98.set_1 | apply IsS98.set_2 | refine IsS98.far ?_ NB0_255.out _) | exact HI0.out)) (by (with_reducible repeat (first | apply Kd.R_alloc | apply Kd.R_drewN | apply Kd.R_drew)); exact (Kd.R_mono (Kd.R_far (p := ⟨gb255, 1, none⟩) (Kd.R_far (p := ⟨gb255, 0, none⟩) (Kd.R_mono HO_3.out (fun k_ hk => (⟨hk, hk.2⟩ : _ ∧ k_ ≠ gb255))) (fun _ hk => hk.2) (.int .i64 (wrap64 (1 + (Int.tmod x5_2 256))))) (fun _ hk => hk.2) (.string ((⟨#[110]⟩ : ByteArray) ++ (strOfNums y252)))) (fun _ h_ => h_.1))) (by decide)) hk (fun _ h => h.2)) (fun _ h => h.1)); have n1_ := Aside0.mk (Kd.R_mono (Kd.R_keep (IsS98.apart (show IsS98 w0 _ g s0_0 x1001_2 x1002_2 from by repeat (first | (with_reducible first | exact HI0.out | apply IsS98.alloc | apply IsS98.drewN | apply IsS98.drew | apply IsS98.set_1 | apply IsS98.set_2 | refine IsS98.far ?_ NB0_255.out _) | exact HI0.out)) (by (with_reducible repeat (first | apply Kd.R_alloc | apply Kd.R_drewN | apply Kd.R_drew)); exact (Kd.R_mono (Kd.R_far (p := ⟨gb255, 1, none⟩) (Kd.R_far (p := ⟨gb255, 0, none⟩) (Kd.R_types HO254.out BK255.out (by decide)) (fun _ hk => hk.2) (.int .i64 (wrap64 (1 + (Int.tmod x5_2 256))))) (fun _ hk => hk.2) (.string ((⟨#[110]⟩ : ByteArray) ++ (strOfNums y252)))) (fun _ h_ => h_.1))) (by decide)) hk (fun _ h => h.2)) (fun _ h => h.1)); have n2_ := Aside0.mk (KeepBut.blk hk (g' := gb255) (o := .cells #[.int .i64 (wrap64 (1 + (Int.tmod x5_2 256))), .string ((⟨#[110]⟩ : ByteArray) ++ (strOfNums y252))] 27 (0, 0)) (by (with_reducible repeat (first | refine blk_drewN ?_ _ | refine blk_drew ?_ | refine blk_alloc ?_ _)); refine blk_put (cs := #[.int .i64 (wrap64 (1 + (Int.tmod x5_2 256))), .string (⟨#[]⟩ : ByteArray)]) ?_ 1 _ rfl; (with_reducible repeat (first | refine blk_drewN ?_ _ | refine blk_drew ?_ | refine blk_alloc ?_ _)); refine blk_put (cs := #[.int .i64 0, .string (⟨#[]⟩ : ByteArray)]) ?_ 0 _ rfl; (with_reducible repeat (first | refine blk_drewN ?_ _ | refine blk_drew ?_ | refine blk_alloc ?_ _)); exact BK255.out) NB255_0.out (by simp)); have n3_ := Aside0.mk (KeepBut.trans (by repeat (first | (with_reducible first | exact HK.out | apply KeepBut.set_ | apply keep_drewN | apply keep_drew | apply keep_alloc | refine keep_far ?_ GW255.out _) | exact HK.out)) hk (.inl rfl)); have n4_ := Aside0.mk (hb); have n5_ := Aside0.mk (hi); clear HO_3; clear HO254; clear BK255; clear HK; clear HB; clear HI0; have HO_3 := n0_; have HO254 := n1_; have BK255 := n2_; have HK := n3_; have HB := n4_; have HI0 := n5_; clear n0_ n1_ n2_ n3_ n4_ n5_; (try clear hb); (try clear hb2); (try clear hk); (try clear hi); have hcz45_0 : w44.cell? ⟨gb255, 0, none⟩ = some (.int .i64 (wrap64 (1 + (Int.tmod x5_2 256)))) := (blk_cell BK255.out 0).trans rfl; have hcz45_1 : w44.cell? ⟨gb255, 1, none⟩ = some (.string ((⟨#[110]⟩ : ByteArray) ++ (strOfNums y252))) := (blk_cell BK255.out 1).trans rfl; have hfz45_0 := blk_frozen BK255.out 0; have hfz45_1 := blk_frozen BK255.out 1) | ((with_reducible refine gate_builtin (b := .append) (xs := #[.tmp 55, .tmp 57]) rfl ?_); at_builtin; refine Kd.R_append k27 w.heap.size rfl (.tmp 55) (.tmp 57) 41 27 (.agg #[(.int .i64 0), (.string ⟨#[]⟩)]) 24 rfl Try.underlying41 info27 rfl (by decide) (by omega) u3 x3_2 (⟨wrap64 (1 + (Int.tmod x5_2 256)), (⟨#[110]⟩ : ByteArray) ++ (strOfNums y252)⟩ : S27) [.int .i64 (wrap64 (1 + (Int.tmod x5_2 256))), .string ((⟨#[110]⟩ : ByteArray) ++ (strOfNums y252))] (fun k_ => k_ ≠ gb255) (fun _ => False) rfl rfl ?aP (fun _ hk => hk.elim) ?aF ?aO (Below.refl _ _) ?aS ?aL ?_; (case aP => exact k27_mkM _ _ _ (⟨wrap64 (1 + (Int.tmod x5_2 256)), (⟨#[110]⟩ : ByteArray) ++ (strOfNums y252)⟩ : S27)); (case aF => exact (fun k_ hk => Kd.freshB (g := gb255) (o := .cells #[.int .i64 (wrap64 (1 + (Int.tmod x5_2 256))), .string ((⟨#[110]⟩ : ByteArray) ++ (strOfNums y252))] 27 (0, 0)) (by (with_reducible repeat (first | refine blk_drewN ?_ _ | refine blk_drew ?_ | refine blk_alloc ?_ _)); exact BK255.out) k_ hk)); (case aO => exact (by (with_reducible repeat (first | apply Kd.R_alloc | apply Kd.R_drewN | apply Kd.R_drew)); exact Kd.R_mono HO_3.out (fun _ hk => hk.2))); (case aS => exact (keep_size (w := w) (g := g) (row := none) (by repeat (first | (with_reducible first | exact HK.out | apply KeepBut.set_ | apply keep_drewN | apply keep_drew | apply keep_alloc | refine keep_far ?_ GW255.out _) | exact HK.out)))); (case aL => have := LMc37.out; omega); intro v269 w46 ho hb hg hat; rw [← Ny268.out] at ho; have n0_ := Aside0.mk (IsS98.grown (by first | exact HI0.out | exact IsS98.far (p := ⟨gb255, 1, none⟩) (IsS98.far (p := ⟨gb255, 0, none⟩) HI0.out NB0_255.out _) NB0_255.out _ | repeat (first | (with_reducible first | exact HI0.out | apply IsS98.alloc | apply IsS98.drewN | apply IsS98.drew | apply IsS98.set_1 | apply IsS98.set_2 | refine IsS98.far ?_ NB0_255.out _) | exact HI0.out)) hg (IsS98.own_ne HI0.out HO_3.out (by decide))); have n1_ := Aside0.mk (Kd.R_over' (by (with_reducible repeat (first | apply Kd.R_alloc | apply Kd.R_drewN | apply Kd.R_drew)); exact HO254.out) (Kd.R_typed (by (with_reducible repeat (first | apply Kd.R_alloc | apply Kd.R_drewN | apply Kd.R_drew)); exact HO_3.out)) (by decide) hg); have n2_ := Aside0.mk (blk_grown (g := gb255) (o := .cells #[.int .i64 (wrap64 (1 + (Int.tmod x5_2 256))), .string ((⟨#[110]⟩ : ByteArray) ++ (strOfNums y252))] 27 (0, 0)) (by (with_reducible repeat (first | refine blk_drewN ?_ _ | refine blk_drew ?_ | refine blk_alloc ?_ _)); exact BK255.out) hg (Kd.R_away HO_3.out (fun _ hk => hk.2))); have n3_ := Aside0.mk (below_weaken (by repeat (first | (with_reducible first | exact HB.out | apply below_alloc | apply pw_below_drewN | apply below_drew1 | refine below_set ?_ (IsS98.ge HI0.out) | refine below_set ?_ GE255.out) | exact HB.out)) HL.out hb); have n4_ := Aside0.mk (KeepBut.trans (by repeat (first | (with_reducible first | exact HK.out | apply KeepBut.set_ | apply keep_drewN | apply keep_drew | apply keep_alloc | refine keep_far ?_ GW255.out _) | exact HK.out)) (KeepBut.of_grown hg g) (Kd.R_base2 HO_3.out)); have n5_ := Aside0.mk (ho); clear HI0; clear HO254; clear BK255; clear HB; clear HK; clear HO_3; have HI0 := n0_; have HO254 := n1_; have BK255 := n2_; have HB := n3_; have HK := n4_; have HO270 := n5_; clear n0_ n1_ n2_ n3_ n4_ n5_; clear ho hb hg hat))
                    go_roundg k2
                    case measure => have := HJ3.out; have := HK2.out; omega
                    case rel => exact ⟨(y268), (wrap64 (x5_2 + 1)), (t257), (t258), (by first | rfl | (simp; done) | (simp [*]; done)), H', ⟨by have := HJ3.out; have := HK2.out; omega⟩, ⟨by (with_reducible repeat (first | apply Kd.R_alloc | apply Kd.R_drewN | apply Kd.R_drew)); exact Kd.R_mono HO270.out (fun _ hk => trivial)⟩, ⟨by repeat (first | (with_reducible first | exact HI0.out | apply IsS98.alloc | apply IsS98.drewN | apply IsS98.drew | apply IsS98.set_1 | apply IsS98.set_2 | refine IsS98.far ?_ NB0_255.out _) | exact HI0.out)⟩, ⟨by repeat (first | (with_reducible first | exact HK.out | apply KeepBut.set_ | apply keep_drewN | apply keep_drew | apply keep_alloc | refine keep_far ?_ GW255.out _) | exact HK.out)⟩, ⟨by repeat (first | (with_reducible first | exact HB.out | apply below_alloc | apply pw_below_drewN | apply below_drew1 | refine below_set ?_ (IsS98.ge HI0.out) | refine below_set ?_ GE255.out) | exact HB.out)⟩⟩
                  · rw [if_neg c37] at H
                    exact absurd H (by simp)
              · replace c16 := Bool.eq_false_iff.mpr c16
                subst c16
                have H1 : (if x3_2.length < 5864062014805 then (spec_l10DrawEntries.l0 k2 (x3_2 ++ [(⟨wrap64 (1 + (Int.tmod x5_2 256)), (⟨#[110]⟩ : ByteArray) ++ (strOfNums y252)⟩ : S27)]) x4_3 (wrap64 (x5_2 + 1)) s0_0 t257 t258) else (none)) = some (r1, r2, r3) := by rw [if_neg (show ¬ (false = true) by decide)] at H; exact H
                clear H
                have H := H1
                clear H1
                by_cases c47 : x3_2.length < 5864062014805
                · rw [if_pos c47] at H
                  have LMc47 := Aside0.mk c47
                  clear c47
                  obtain ⟨y271, hy271⟩ : ∃ y_ : List (S27), y_ = (x3_2 ++ [(⟨wrap64 (1 + (Int.tmod x5_2 256)), (⟨#[110]⟩ : ByteArray) ++ (strOfNums y252)⟩ : S27)]) := ⟨_, rfl⟩
                  replace H : (spec_l10DrawEntries.l0 k2 y271 x4_3 (wrap64 (x5_2 + 1)) s0_0 t257 t258) = some (r1, r2, r3) := by first | (rw [hy271]; with_reducible exact H) | (have H2_ := (Option.bind_some _ _).symm.trans H; rw [hy271]; with_reducible exact H2_) | (have H2_ := (Option.bind_some _ _).symm.trans H; with_reducible exact H2_) | with_reducible exact H | (rw [hy271]; exact H) | exact H
                  have Ny271 := Aside0.mk hy271
                  clear hy271
                  have H' := Aside0.mk H
                  clear H
                  go_wp2_with (first | ((with_reducible refine gate_dst (N := 36) rfl ?_); refine Kd.R_lit (Kd.int .u8) _ 5 ?hg (N := 36) ?hd (xs := ([(wrap64 (40 + (wrap64 (Int.tdiv x5_2 20)))) % 256, (wrap64 (60 + (Int.tmod x5_2 20))) % 256] : List Int)) (inner := [.int .u8 ((wrap64 (40 + (wrap64 (Int.tdiv x5_2 20)))) % 256), .int .u8 ((wrap64 (60 + (Int.tmod x5_2 20))) % 256)]) (ok := fun _ => True) (okp := fun _ => True) ?hr ?hp (fun _ hk => hk) trivial (Below.refl _ _) (Nat.le_refl _) (by simp) ?_; (case hd => rfl); (case hg => rfl); (case hr => first | (go_simp; done) | (go_simp; rfl)); (case hp => exact (Reps.one (show Kd.M (Kd.int .u8) _ _ _ ((wrap64 (40 + (wrap64 (Int.tdiv x5_2 20)))) % 256) [.int .u8 ((wrap64 (40 + (wrap64 (Int.tdiv x5_2 20)))) % 256)] from rfl) (Reps.one (show Kd.M (Kd.int .u8) _ _ _ ((wrap64 (60 + (Int.tmod x5_2 20))) % 256) [.int .u8 ((wrap64 (60 + (Int.tmod x5_2 20))) % 256)] from rfl) (Reps.none _ _)))); intro v253 w48 ho49 hb hg_ hnew_; clear hg_ hnew_; (first | rw [← Ny252.out] at ho49 | (simp only [Int.reduceToNat] at ho49; rw [← Ny252.out] at ho49)); have n0_ := Aside0.mk (Kd.R_below (by (with_reducible repeat (first | apply Kd.R_alloc | apply Kd.R_drewN | apply Kd.R_drew)); exact HO_3.out) hb); have n1_ := Aside0.mk (Kd.R_lower ho49 (keep_size (w := w) (g := g) (row := none) (by repeat (first | (with_reducible first | exact HK.out | apply KeepBut.set_ | apply keep_drewN | apply keep_drew | apply keep_alloc) | exact HK.out)))); have n2_ := Aside0.mk (IsS98.below (by repeat (first | (with_reducible first | exact HI0.out | apply IsS98.alloc | apply IsS98.drewN | apply IsS98.drew | apply IsS98.set_1 | apply IsS98.set_2) | exact HI0.out)) hb); have n3_ := Aside0.mk (KeepBut.trans (by repeat (first | (with_reducible first | exact HK.out | apply KeepBut.set_ | apply keep_drewN | apply keep_drew | apply keep_alloc) | exact HK.out)) (KeepBut.of_below hb g none) (.inl rfl)); have n4_ := Aside0.mk (below_step (by repeat (first | (with_reducible first | exact HB.out | apply below_alloc | apply pw_below_drewN | apply below_drew1 | refine below_set ?_ (IsS98.ge HI0.out)) | exact HB.out)) hb); clear HO_3; clear HI0; clear HK; clear HB; have HO_3 := n0_; have HO254 := n1_; have HI0 := n2_; have HK := n3_; have HB := n4_; clear n0_ n1_ n2_ n3_ n4_; clear hb ho49; have hcv50 := own_string (P := Try.prog) Try.underlying25 Try.underlying5 Try.underlying9 (Kd.own_of_R HO254.out)) | ((with_reducible refine gate_dst (N := 6) rfl ?_); refine box_event ?hg (N := 6) ?hd (cs := #[.int .i64 0, .string (⟨#[]⟩ : ByteArray)]) (t := 27) ?hr ?_; (case hd => rfl); (case hg => rfl); (case hr => first | (go_simp; done) | (go_simp; rfl)); intro gb255 hg w51 hbox hb; have n0_ := Aside0.mk (Kd.R_below (Kd.R_elderB (by (with_reducible repeat (first | apply Kd.R_alloc | apply Kd.R_drewN | apply Kd.R_drew)); exact HO_3.out) gb255 (Nat.le_of_eq hg.symm)) hb); have n1_ := Aside0.mk (Kd.R_below (by (with_reducible repeat (first | apply Kd.R_alloc | apply Kd.R_drewN | apply Kd.R_drew)); exact HO254.out) hb); have n2_ := Aside0.mk (IsS98.below (by repeat (first | (with_reducible first | exact HI0.out | apply IsS98.alloc | apply IsS98.drewN | apply IsS98.drew | apply IsS98.set_1 | apply IsS98.set_2) | exact HI0.out)) hb); have n3_ := Aside0.mk (KeepBut.trans (by repeat (first | (with_reducible first | exact HK.out | apply KeepBut.set_ | apply keep_drewN | apply keep_drew | apply keep_alloc) | exact HK.out)) (KeepBut.of_below hb g none) (.inl rfl)); have n4_ := Aside0.mk (below_step (by repeat (first | (with_reducible first | exact HB.out | apply below_alloc | apply pw_below_drewN | apply below_drew1 | refine below_set ?_ (IsS98.ge HI0.out)) | exact HB.out)) hb); have n5_ := Aside0.mk (hbox); have n6_ := Aside0.mk ((by rw [hg]; exact (keep_size (w := w) (g := g) (row := none) (by repeat (first | (with_reducible first | exact HK.out | apply KeepBut.set_ | apply keep_drewN | apply keep_drew | apply keep_alloc) | exact HK.out))) : w.heap.size ≤ gb255)); have n7_ := Aside0.mk ((Nat.le_trans HW0.out (by rw [hg]; exact (keep_size (w := w) (g := g) (row := none) (by repeat (first | (with_reducible first | exact HK.out | apply KeepBut.set_ | apply keep_drewN | apply keep_drew | apply keep_alloc) | exact HK.out))) : w.heap.size ≤ gb255) : w0.heap.size ≤ gb255)); have n8_ := Aside0.mk ((by rw [hg]; exact Nat.ne_of_lt (IsS98.lt (show IsS98 w0 _ g s0_0 x1001_2 x1002_2 from by repeat (first | (with_reducible first | exact HI0.out | apply IsS98.alloc | apply IsS98.drewN | apply IsS98.drew | apply IsS98.set_1 | apply IsS98.set_2) | exact HI0.out))) : g ≠ gb255)); have n9_ := Aside0.mk ((by rw [hg]; exact Nat.ne_of_gt (IsS98.lt (show IsS98 w0 _ g s0_0 x1001_2 x1002_2 from by repeat (first | (with_reducible first | exact HI0.out | apply IsS98.alloc | apply IsS98.drewN | apply IsS98.drew | apply IsS98.set_1 | apply IsS98.set_2) | exact HI0.out))) : gb255 ≠ g)); clear HO_3; clear HO254; clear HI0; clear HK; clear HB; have HO_3 := n0_; have HO254 := n1_; have HI0 := n2_; have HK := n3_; have HB := n4_; have BK255 := n5_; have GW255 := n6_; have GE255 := n7_; have NB0_255 := n8_; have NB255_0 := n9_; clear n0_ n1_ n2_ n3_ n4_ n5_ n6_ n7_ n8_ n9_; clear hb hbox hg; have hnb52 := NB255_0.out; have hnc52 := NB0_255.out; have hcz53_0 : w51.cell? ⟨gb255, 0, none⟩ = some (.int .i64 0) := (blk_cell BK255.out 0).trans rfl; have hcz53_1 : w51.cell? ⟨gb255, 1, none⟩ = some (.string (⟨#[]⟩ : ByteArray)) := (blk_cell BK255.out 1).trans rfl; have hfz53_0 := blk_frozen BK255.out 0; have hfz53_1 := blk_frozen BK255.out 1) | ((with_reducible refine gate_callee (f := 76) rfl ?_); refine goesL_ (some 41) rfl rfl Try.func76 (by kernel_rfl) rfl #[.pointer (some ⟨g, 0, none⟩), .int .i64 3] rfl (by (try simp only [List.map_toArray, List.map_cons, List.map_nil]); first | done | rfl | (simp only [List.length_drop, List.length_take]; rfl)) ?_; (with_reducible refine (spec_l1Chance.calls g s0_0 x1001_2 x1002_2 3 false t257 t258 w0 _ ?side1 ?side2 A15.out).mono ?_); (case side1 => repeat (first | (with_reducible first | exact HI0.out | apply IsS98.alloc | apply IsS98.drewN | apply IsS98.drew | apply IsS98.set_1 | apply IsS98.set_2 | refine IsS98.far ?_ NB0_255.out _) | exact HI0.out)); (case side2 => repeat (first | (with_reducible first | exact HB.out | apply below_alloc | apply pw_below_drewN | apply below_drew1 | refine below_set ?_ (IsS98.ge HI0.out) | refine below_set ?_ GE255.out) | exact HB.out)); rintro e w54 ⟨rfl, hi, hb, hk⟩; refine ⟨_, rfl, ?_⟩; have n0_ := Aside0.mk (Kd.R_mono (Kd.R_keep (IsS98.apart (show IsS98 w0 _ g s0_0 x1001_2 x1002_2 from by repeat (first | (with_reducible first | exact HI0.out | apply IsS98.alloc | apply IsS98.drewN | apply IsS98.drew | apply IsS98.set_1 | apply IsS98.set_2 | refine IsS98.far ?_ NB0_255.out _) | exact HI0.out)) (by (with_reducible repeat (first | apply Kd.R_alloc | apply Kd.R_drewN | apply Kd.R_drew)); exact (Kd.R_mono (Kd.R_far (p := ⟨gb255, 1, none⟩) (Kd.R_far (p := ⟨gb255, 0, none⟩) (Kd.R_mono HO_3.out (fun k_ hk => (⟨hk, hk.2⟩ : _ ∧ k_ ≠ gb255))) (fun _ hk => hk.2) (.int .i64 (wrap64 (1 + (Int.tmod x5_2 256))))) (fun _ hk => hk.2) (.string ((⟨#[110]⟩ : ByteArray) ++ (strOfNums y252)))) (fun _ h_ => h_.1))) (by decide)) hk (fun _ h => h.2)) (fun _ h => h.1)); have n1_ := Aside0.mk (Kd.R_mono (Kd.R_keep (IsS98.apart (show IsS98 w0 _ g s0_0 x1001_2 x1002_2 from by repeat (first | (with_reducible first | exact HI0.out | apply IsS98.alloc | apply IsS98.drewN | apply IsS98.drew | apply IsS98.set_1 | apply IsS98.set_2 | refine IsS98.far ?_ NB0_255.out _) | exact HI0.out)) (by (with_reducible repeat (first | apply Kd.R_alloc | apply Kd.R_drewN | apply Kd.R_drew)); exact (Kd.R_mono (Kd.R_far (p := ⟨gb255, 1, none⟩) (Kd.R_far (p := ⟨gb255, 0, none⟩) (Kd.R_types HO254.out BK255.out (by decide)) (fun _ hk => hk.2) (.int .i64 (wrap64 (1 + (Int.tmod x5_2 256))))) (fun _ hk => hk.2) (.string ((⟨#[110]⟩ : ByteArray) ++ (strOfNums y252)))) (fun _ h_ => h_.1))) (by decide)) hk (fun _ h => h.2)) (fun _ h => h.1)); have n2_ := Aside0.mk (KeepBut.blk hk (g' := gb255) (o := .cells #[.int .i64 (wrap64 (1 + (Int.tmod x5_2 256))), .string ((⟨#[110]⟩ : ByteArray) ++ (strOfNums y252))] 27 (0, 0)) (by (with_reducible repeat (first | refine blk_drewN ?_ _ | refine blk_drew ?_ | refine blk_alloc ?_ _)); refine blk_put (cs := #[.int .i64 (wrap64 (1 + (Int.tmod x5_2 256))), .string (⟨#[]⟩ : ByteArray)]) ?_ 1 _ rfl; (with_reducible repeat (first | refine blk_drewN ?_ _ | refine blk_drew ?_ | refine blk_alloc ?_ _)); refine blk_put (cs := #[.int .i64 0, .string (⟨#[]⟩ : ByteArray)]) ?_ 0 _ rfl; (with_reducible repeat (first | refine blk_drewN ?_ _ | refine blk_drew ?_ | refine blk_alloc ?_ _)); exact BK255.out) NB255_0.out (by simp)); have n3_ := Aside0.mk (KeepBut.trans (by repeat (first | (with_reducible first | exact HK.out | apply KeepBut.set_ | apply keep_drewN | apply keep_drew | apply keep_alloc | refine keep_far ?_ GW255.out _) | exact HK.out)) hk (.inl rfl)); have n4_ := Aside0.mk (hb); have n5_ := Aside0.mk (hi); clear HO_3; clear HO254; clear BK255; clear HK; clear HB; clear HI0; have HO_3 := n0_; have HO254 := n1_; have BK255 := n2_; have HK := n3_; have HB := n4_; have HI0 := n5_; clear n0_ n1_ n2_ n3_ n4_ n5_; (try clear hb); (try clear hb2); (try clear hk); (try clear hi); have hcz55_0 : w54.cell? ⟨gb255, 0, none⟩ = some (.int .i64 (wrap64 (1 + (Int.tmod x5_2 256)))) := (blk_cell BK255.out 0).trans rfl; have hcz55_1 : w54.cell? ⟨gb255, 1, none⟩ = some (.string ((⟨#[110]⟩ : ByteArray) ++ (strOfNums y252))) := (blk_cell BK255.out 1).trans rfl; have hfz55_0 := blk_frozen BK255.out 0; have hfz55_1 := blk_frozen BK255.out 1) | ((with_reducible refine gate_builtin (b := .append) (xs := #[.tmp 55, .tmp 57]) rfl ?_); at_builtin; refine Kd.R_append k27 w.heap.size rfl (.tmp 55) (.tmp 57) 41 27 (.agg #[(.int .i64 0), (.string ⟨#[]⟩)]) 24 rfl Try.underlying41 info27 rfl (by decide) (by omega) u3 x3_2 (⟨wrap64 (1 + (Int.tmod x5_2 256)), (⟨#[110]⟩ : ByteArray) ++ (strOfNums y252)⟩ : S27) [.int .i64 (wrap64 (1 + (Int.tmod x5_2 256))), .string ((⟨#[110]⟩ : ByteArray) ++ (strOfNums y252))] (fun k_ => k_ ≠ gb255) (fun _ => False) rfl rfl ?aP (fun _ hk => hk.elim) ?aF ?aO (Below.refl _ _) ?aS ?aL ?_; (case aP => exact k27_mkM _ _ _ (⟨wrap64 (1 + (Int.tmod x5_2 256)), (⟨#[110]⟩ : ByteArray) ++ (strOfNums y252)⟩ : S27)); (case aF => exact (fun k_ hk => Kd.freshB (g := gb255) (o := .cells #[.int .i64 (wrap64 (1 + (Int.tmod x5_2 256))), .string ((⟨#[110]⟩ : ByteArray) ++ (strOfNums y252))] 27 (0, 0)) (by (with_reducible repeat (first | refine blk_drewN ?_ _ | refine blk_drew ?_ | refine blk_alloc ?_ _)); exact BK255.out) k_ hk)); (case aO => exact (by (with_reducible repeat (first | apply Kd.R_alloc | apply Kd.R_drewN | apply Kd.R_drew)); exact Kd.R_mono HO_3.out (fun _ hk => hk.2))); (case aS => exact (keep_size (w := w) (g := g) (row := none) (by repeat (first | (with_reducible first | exact HK.out | apply KeepBut.set_ | apply keep_drewN | apply keep_drew | apply keep_alloc | refine keep_far ?_ GW255.out _) | exact HK.out)))); (case aL => have := LMc47.out; omega); intro v272 w56 ho hb hg hat; rw [← Ny271.out] at ho; have n0_ := Aside0.mk (IsS98.grown (by first | exact HI0.out | exact IsS98.far (p := ⟨gb255, 1, none⟩) (IsS98.far (p := ⟨gb255, 0, none⟩) HI0.out NB0_255.out _) NB0_255.out _ | repeat (first | (with_reducible first | exact HI0.out | apply IsS98.alloc | apply IsS98.drewN | apply IsS98.drew | apply IsS98.set_1 | apply IsS98.set_2 | refine IsS98.far ?_ NB0_255.out _) | exact HI0.out)) hg (IsS98.own_ne HI0.out HO_3.out (by decide))); have n1_ := Aside0.mk (Kd.R_over' (by (with_reducible repeat (first | apply Kd.R_alloc | apply Kd.R_drewN | apply Kd.R_drew)); exact HO254.out) (Kd.R_typed (by (with_reducible repeat (first | apply Kd.R_alloc | apply Kd.R_drewN | apply Kd.R_drew)); exact HO_3.out)) (by decide) hg); have n2_ := Aside0.mk (blk_grown (g := gb255) (o := .cells #[.int .i64 (wrap64 (1 + (Int.tmod x5_2 256))), .string ((⟨#[110]⟩ : ByteArray) ++ (strOfNums y252))] 27 (0, 0)) (by (with_reducible repeat (first | refine blk_drewN ?_ _ | refine blk_drew ?_ | refine blk_alloc ?_ _)); exact BK255.out) hg (Kd.R_away HO_3.out (fun _ hk => hk.2))); have n3_ := Aside0.mk (below_weaken (by repeat (first | (with_reducible first | exact HB.out | apply below_alloc | apply pw_below_drewN | apply below_drew1 | refine below_set ?_ (IsS98.ge HI0.out) | refine below_set ?_ GE255.out) | exact HB.out)) HL.out hb); have n4_ := Aside0.mk (KeepBut.trans (by repeat (first | (with_reducible first | exact HK.out | apply KeepBut.set_ | apply keep_drewN | apply keep_drew | apply keep_alloc | refine keep_far ?_ GW255.out _) | exact HK.out)) (KeepBut.of_grown hg g) (Kd.R_base2 HO_3.out)); have n5_ := Aside0.mk (ho); clear HI0; clear HO254; clear BK255; clear HB; clear HK; clear HO_3; have HI0 := n0_; have HO254 := n1_; have BK255 := n2_; have HB := n3_; have HK := n4_; have HO273 := n5_; clear n0_ n1_ n2_ n3_ n4_ n5_; clear ho hb hg hat))
                  go_roundg k2
                  case measure => have := HJ3.out; have := HK2.out; omega
                  case rel => exact ⟨(y271), (wrap64 (x5_2 + 1)), (t257), (t258), (by first | rfl | (simp; done) | (simp [*]; done)), H', ⟨by have := HJ3.out; have := HK2.out; omega⟩, ⟨by (with_reducible repeat (first | apply Kd.R_alloc | apply Kd.R_drewN | apply Kd.R_drew)); exact Kd.R_mono HO273.out (fun _ hk => trivial)⟩, ⟨by repeat (first | (with_reducible first | exact HI0.out | apply IsS98.alloc | apply IsS98.drewN | apply IsS98.drew | apply IsS98.set_1 | apply IsS98.set_2 | refine IsS98.far ?_ NB0_255.out _) | exact HI0.out)⟩, ⟨by repeat (first | (with_reducible first | exact HK.out | apply KeepBut.set_ | apply keep_drewN | apply keep_drew | apply keep_alloc | refine keep_far ?_ GW255.out _) | exact HK.out)⟩, ⟨by repeat (first | (with_reducible first | exact HB.out | apply below_alloc | apply pw_below_drewN | apply below_drew1 | refine below_set ?_ (IsS98.ge HI0.out) | refine below_set ?_ GE255.out) | exact HB.out)⟩⟩
                · rw [if_neg c47] at H
                  exact absurd H (by simp)
            · rw [if_neg c14] at H
              exact absurd H (by simp)
          · rw [if_neg c13] at H
            have c13b0 : decide (x5_2 < x4_3) = false := decide_eq_false c13
            clear c13
            have HC57 := Aside0.mk H
            clear H
            go_upto_region 12 with (fail)
            go_cut [64] (fun v64 wc => ∃ (kq : Nat) (x64_56 : Bool) (x1001_56 : Int) (x1002_56 : Int), v64 = .bool x64_56 ∧ Aside0 (spec_l10DrawEntries.j2 kq x3_2 x4_3 x64_56 s0_0 x1001_56 x1002_56 = some (r1, r2, r3)) ∧ Aside0 (kq ≤ k2) ∧ Aside0 (Kd.R k27 27 wc w.heap.size (fun _ => True) u3 x3_2) ∧ Aside0 (IsS98 w0 wc g s0_0 x1001_56 x1002_56) ∧ Aside0 (KeepBut w wc g none) ∧ Aside0 (Below w0.heap.size w0 wc))
            case first =>
              have H := HC57.out
              clear HC57
              by_cases c58 : x4_3 > 0
              · rw [if_pos c58] at H
                have c58b0 : decide (0 < x4_3) = true := decide_eq_true c58
                clear c58
                (first | rw [c58b0] | (simp only [i64_w, i32_w]; rw [c58b0]) | skip)
                replace H := Option.bind_eq_some_iff.mp H
                obtain ⟨⟨t274, t275, t276⟩, A590, H⟩ := H
                replace H : (spec_l10DrawEntries.j2 k2 x3_2 x4_3 t274 s0_0 t275 t276) = some (r1, r2, r3) := H
                have A59 := Aside0.mk A590
                clear A590
                have H' := Aside0.mk H
                clear H
                go_wp2_with (first | (go_at_call 76; (with_reducible refine (spec_l1Chance.calls g s0_0 x1001_2 x1002_2 6 t274 t275 t276 w0 _ ?side1 ?side2 A59.out).mono ?_); (case side1 => repeat (first | (with_reducible first | exact HI0.out | apply IsS98.alloc | apply IsS98.drewN | apply IsS98.drew | apply IsS98.set_1 | apply IsS98.set_2) | exact HI0.out)); (case side2 => repeat (first | (with_reducible first | exact HB.out | apply below_alloc | apply pw_below_drewN | apply below_drew1 | refine below_set ?_ (IsS98.ge HI0.out)) | exact HB.out)); rintro e w60 ⟨rfl, hi, hb, hk⟩; have n0_ := Aside0.mk (Kd.R_mono (Kd.R_keep (IsS98.apart (show IsS98 w0 _ g s0_0 x1001_2 x1002_2 from by repeat (first | (with_reducible first | exact HI0.out | apply IsS98.alloc | apply IsS98.drewN | apply IsS98.drew | apply IsS98.set_1 | apply IsS98.set_2) | exact HI0.out)) (by (with_reducible repeat (first | apply Kd.R_alloc | apply Kd.R_drewN | apply Kd.R_drew)); exact HO_3.out) (by decide)) hk (fun _ h => h.2)) (fun _ h => h.1)); have n1_ := Aside0.mk (KeepBut.trans (by repeat (first | (with_reducible first | exact HK.out | apply KeepBut.set_ | apply keep_drewN | apply keep_drew | apply keep_alloc) | exact HK.out)) hk (.inl rfl)); have n2_ := Aside0.mk (hb); have n3_ := Aside0.mk (hi); clear HO_3; clear HK; clear HB; clear HI0; have HO_3 := n0_; have HK := n1_; have HB := n2_; have HI0 := n3_; clear n0_ n1_ n2_ n3_; (try clear hb); (try clear hb2); (try clear hk); (try clear hi)))
                go_meet
                case rel => exact ⟨_, (t274), (t275), (t276), (by first | rfl | (simp; done) | (simp [*]; done)), H', ⟨by have := HJ3.out; have := HK2.out; first | omega | exact Nat.le_refl _⟩, ⟨by (with_reducible repeat (first | apply Kd.R_alloc | apply Kd.R_drewN | apply Kd.R_drew)); exact HO_3.out⟩, ⟨by repeat (first | (with_reducible first | exact HI0.out | apply IsS98.alloc | apply IsS98.drewN | apply IsS98.drew | apply IsS98.set_1 | apply IsS98.set_2) | exact HI0.out)⟩, ⟨by repeat (first | (with_reducible first | exact HK.out | apply KeepBut.set_ | apply keep_drewN | apply keep_drew | apply keep_alloc) | exact HK.out)⟩, ⟨by repeat (first | (with_reducible first | exact HB.out | apply below_alloc | apply pw_below_drewN | apply below_drew1 | refine below_set ?_ (IsS98.ge HI0.out)) | exact HB.out)⟩⟩
              · rw [if_neg c58] at H
                have c58b0 : decide (0 < x4_3) = false := decide_eq_false c58
                clear c58
                (first | rw [c58b0] | (simp only [i64_w, i32_w]; rw [c58b0]) | skip)
                have H' := Aside0.mk H
                clear H
                go_wp2
                go_meet
                case rel => exact ⟨_, (false), (x1001_2), (x1002_2), (by first | rfl | (simp; done) | (simp [*]; done)), H', ⟨by have := HJ3.out; have := HK2.out; first | omega | exact Nat.le_refl _⟩, ⟨by (with_reducible repeat (first | apply Kd.R_alloc | apply Kd.R_drewN | apply Kd.R_drew)); exact HO_3.out⟩, ⟨by repeat (first | (with_reducible first | exact HI0.out | apply IsS98.alloc | apply IsS98.drewN | apply IsS98.drew | apply IsS98.set_1 | apply IsS98.set_2) | exact HI0.out)⟩, ⟨by repeat (first | (with_reducible first | exact HK.out | apply KeepBut.set_ | apply keep_drewN | apply keep_drew | apply keep_alloc) | exact HK.out)⟩, ⟨by repeat (first | (with_reducible first | exact HB.out | apply below_alloc | apply pw_below_drewN | apply below_drew1 | refine below_set ?_ (IsS98.ge HI0.out)) | exact HB.out)⟩⟩
            case rest =>
              clear HC57
              try clear c1
              try clear c2
              try clear p2
              try clear hcv2
              try clear c3
              try clear hcv3
              try clear c4
              try clear hcv4
              try clear c5
              try clear hcv5
              try clear c6
              try clear p6
              try clear c7
              try clear c10
              try clear c13
              try clear c13b0
              try clear c14
              try clear c14b0
              try clear c14b1
              try clear c14b2
              try clear c16
              try clear c17
              try clear c17b0
              try clear c19
              try clear hcv22
              try clear c24
              try clear hcv30
              try clear hcv31
              try clear c37
              try clear hcv40
              try clear c42
              try clear c47
              try clear hcv50
              try clear c52
              try clear c58
              try clear c58b0
              try clear hcz25_0
              try clear hcz25_1
              try clear hcz35_0
              try clear hcz35_1
              try clear hcz43_0
              try clear hcz43_1
              try clear hcz45_0
              try clear hcz45_1
              try clear hcz53_0
              try clear hcz53_1
              try clear hcz55_0
              try clear hcz55_1
              try clear hcz7_0
              try clear hcz7_1
              try clear hcz7_2
              try clear hfz25_0
              try clear hfz25_1
              try clear hfz35_0
              try clear hfz35_1
              try clear hfz43_0
              try clear hfz43_1
              try clear hfz45_0
              try clear hfz45_1
              try clear hfz53_0
              try clear hfz53_1
              try clear hfz55_0
              try clear hfz55_1
              try clear hfz7_1
              try clear hfz7_2
              try clear p2
              try clear p6
              obtain ⟨kq, x64_56, x1001_56, x1002_56, rfl, HA, HJ56, HO_3, HI0, HK, HB⟩ := hcut
              cases kq with
              | zero => exact absurd HA.out (by simp [spec_l10DrawEntries.j2])
              | succ kj56 =>
                have H := HA.out
                clear HA
                simp only [spec_l10DrawEntries.j2] at H
                by_cases c61 : x64_56 = true
                · subst c61
                  have H1 : ((spec_l1Next.f s0_0 x1001_56 x1002_56 x4_3).bind fun bt277 => ((spec_l10DrawEntry.f kj56 s0_0 bt277.2.1 bt277.2.2).bind fun bt280 => (if 0 ≤ bt277.1 then (if bt277.1 < (x3_2.length : Int) then ((some (x3_2.set (bt277.1 : Int).toNat (⟨bt280.1, bt280.2.1⟩ : S27) : List (S27))).bind fun y284 => (if x4_3 > 1 then ((spec_l1Chance.f s0_0 bt280.2.2.1 bt280.2.2.2 10).bind fun bt285 => (if bt285.1 = true then (if 0 ≤ (wrap64 (x4_3 - 1)) then (if (wrap64 (x4_3 - 1)) < (x3_2.length : Int) then (if 0 < (x3_2.length : Int) then (some ((y284.set (0 : Int).toNat (⟨(rd_T27 y284 0).f0, (rd_T27 y284 (wrap64 (x4_3 - 1))).f1⟩ : S27)), bt285.2.1, bt285.2.2)) else (none)) else (none)) else (none)) else (some (y284, bt285.2.1, bt285.2.2)))) else (some (y284, bt280.2.2.1, bt280.2.2.2)))) else (none)) else (none)))) = some (r1, r2, r3) := by rw [if_pos rfl] at H; exact H
                  clear H
                  have H := H1
                  clear H1
                  replace H := Option.bind_eq_some_iff.mp H
                  obtain ⟨⟨t277, t278, t279⟩, A620, H⟩ := H
                  replace H : ((spec_l10DrawEntry.f kj56 s0_0 t278 t279).bind fun bt280 => (if 0 ≤ t277 then (if t277 < (x3_2.length : Int) then ((some (x3_2.set (t277 : Int).toNat (⟨bt280.1, bt280.2.1⟩ : S27) : List (S27))).bind fun y284 => (if x4_3 > 1 then ((spec_l1Chance.f s0_0 bt280.2.2.1 bt280.2.2.2 10).bind fun bt285 => (if bt285.1 = true then (if 0 ≤ (wrap64 (x4_3 - 1)) then (if (wrap64 (x4_3 - 1)) < (x3_2.length : Int) then (if 0 < (x3_2.length : Int) then (some ((y284.set (0 : Int).toNat (⟨(rd_T27 y284 0).f0, (rd_T27 y284 (wrap64 (x4_3 - 1))).f1⟩ : S27)), bt285.2.1, bt285.2.2)) else (none)) else (none)) else (none)) else (some (y284, bt285.2.1, bt285.2.2)))) else (some (y284, bt280.2.2.1, bt280.2.2.2)))) else (none)) else (none))) = some (r1, r2, r3) := H
                  have A62 := Aside0.mk A620
                  clear A620
                  replace H := Option.bind_eq_some_iff.mp H
                  obtain ⟨⟨t280, t281, t282, t283⟩, A630, H⟩ := H
                  replace H : (if 0 ≤ t277 then (if t277 < (x3_2.length : Int) then ((some (x3_2.set (t277 : Int).toNat (⟨t280, t281⟩ : S27) : List (S27))).bind fun y284 => (if x4_3 > 1 then ((spec_l1Chance.f s0_0 t282 t283 10).bind fun bt285 => (if bt285.1 = true then (if 0 ≤ (wrap64 (x4_3 - 1)) then (if (wrap64 (x4_3 - 1)) < (x3_2.length : Int) then (if 0 < (x3_2.length : Int) then (some ((y284.set (0 : Int).toNat (⟨(rd_T27 y284 0).f0, (rd_T27 y284 (wrap64 (x4_3 - 1))).f1⟩ : S27)), bt285.2.1, bt285.2.2)) else (none)) else (none)) else (none)) else (some (y284, bt285.2.1, bt285.2.2)))) else (some (y284, t282, t283)))) else (none)) else (none)) = some (r1, r2, r3) := H
                  have A63 := Aside0.mk A630
                  clear A630
                  by_cases c64 : 0 ≤ t277
                  · rw [if_pos c64] at H
                    have c64b0 : decide (0 ≤ t277) = true := decide_eq_true c64
                    clear c64
                    by_cases c65 : t277 < (x3_2.length : Int)
                    · rw [if_pos c65] at H
                      have c65b0 : decide (t277 < (x3_2.length : Int)) = true := decide_eq_true c65
                      clear c65
                      obtain ⟨y284, hy284⟩ : ∃ y_ : List (S27), y_ = (x3_2.set (t277 : Int).toNat (⟨t280, t281⟩ : S27)) := ⟨_, rfl⟩
                      replace H : (if x4_3 > 1 then ((spec_l1Chance.f s0_0 t282 t283 10).bind fun bt285 => (if bt285.1 = true then (if 0 ≤ (wrap64 (x4_3 - 1)) then (if (wrap64 (x4_3 - 1)) < (x3_2.length : Int) then (if 0 < (x3_2.length : Int) then (some ((y284.set (0 : Int).toNat (⟨(rd_T27 y284 0).f0, (rd_T27 y284 (wrap64 (x4_3 - 1))).f1⟩ : S27)), bt285.2.1, bt285.2.2)) else (none)) else (none)) else (none)) else (some (y284, bt285.2.1, bt285.2.2)))) else (some (y284, t282, t283))) = some (r1, r2, r3) := by first | (rw [hy284]; with_reducible exact H) | (have H2_ := (Option.bind_some _ _).symm.trans H; rw [hy284]; with_reducible exact H2_) | (have H2_ := (Option.bind_some _ _).symm.trans H; with_reducible exact H2_) | with_reducible exact H | (rw [hy284]; exact H) | exact H
                      have Ny284 := Aside0.mk hy284
                      clear hy284
                      by_cases c67 : x4_3 > 1
                      · rw [if_pos c67] at H
                        have c67b0 : decide (1 < x4_3) = true := decide_eq_true c67
                        clear c67
                        replace H := Option.bind_eq_some_iff.mp H
                        obtain ⟨⟨t285, t286, t287⟩, A680, H⟩ := H
                        replace H : (if t285 = true then (if 0 ≤ (wrap64 (x4_3 - 1)) then (if (wrap64 (x4_3 - 1)) < (x3_2.length : Int) then (if 0 < (x3_2.length : Int) then (some ((y284.set (0 : Int).toNat (⟨(rd_T27 y284 0).f0, (rd_T27 y284 (wrap64 (x4_3 - 1))).f1⟩ : S27)), t286, t287)) else (none)) else (none)) else (none)) else (some (y284, t286, t287))) = some (r1, r2, r3) := H
                        have A68 := Aside0.mk A680
                        clear A680
                        by_cases c69 : t285 = true
                        · subst c69
                          have H1 : (if 0 ≤ (wrap64 (x4_3 - 1)) then (if (wrap64 (x4_3 - 1)) < (x3_2.length : Int) then (if 0 < (x3_2.length : Int) then (some ((y284.set (0 : Int).toNat (⟨(rd_T27 y284 0).f0, (rd_T27 y284 (wrap64 (x4_3 - 1))).f1⟩ : S27)), t286, t287)) else (none)) else (none)) else (none)) = some (r1, r2, r3) := by rw [if_pos rfl] at H; exact H
                          clear H
                          have H := H1
                          clear H1
                          obtain ⟨ji70, hji70⟩ : ∃ j_ : Int, (wrap64 (x4_3 - 1)) = j_ := ⟨_, rfl⟩
                          replace H : (if 0 ≤ (ji70) then (if (ji70) < (x3_2.length : Int) then (if 0 < (x3_2.length : Int) then (some ((y284.set (0 : Int).toNat (⟨(rd_T27 y284 0).f0, (rd_T27 y284 (ji70)).f1⟩ : S27)), t286, t287)) else (none)) else (none)) else (none)) = some (r1, r2, r3) := by first | (rw [hji70] at H; exact H) | (simp only [hji70] at H ⊢; exact H)
                          (try rw [hji70] at A62)
                          (try rw [hji70] at A63)
                          (try rw [hji70] at A68)
                          have hji70w : (IntKind.i64.wrap (x4_3 - 1)) = ji70 := (i64_w _).trans hji70
                          by_cases c71 : 0 ≤ (ji70)
                          · rw [if_pos c71] at H
                            have c71b0 : decide (0 ≤ (ji70)) = true := decide_eq_true c71
                            clear c71
                            by_cases c72 : (ji70) < (x3_2.length : Int)
                            · rw [if_pos c72] at H
                              have c72b0 : decide ((ji70) < (x3_2.length : Int)) = true := decide_eq_true c72
                              clear c72
                              by_cases c73 : 0 < (x3_2.length : Int)
                              · rw [if_pos c73] at H
                                have c73b0 : decide (0 < (x3_2.length : Int)) = true := decide_eq_true c73
                                have c73b1 : decide (0 < x3_2.length) = true := decide_eq_true (by omega)
                                clear c73
                                obtain ⟨y289, hy289⟩ : ∃ y_ : List (S27), y_ = (y284.set (0 : Int).toNat (⟨(rd_T27 y284 0).f0, (rd_T27 y284 (ji70)).f1⟩ : S27)) := ⟨_, rfl⟩
                                replace H : (some (y289, t286, t287)) = some (r1, r2, r3) := by first | (rw [hy289]; with_reducible exact H) | (have H2_ := (Option.bind_some _ _).symm.trans H; rw [hy289]; with_reducible exact H2_) | (have H2_ := (Option.bind_some _ _).symm.trans H; with_reducible exact H2_) | with_reducible exact H | (rw [hy289]; exact H) | exact H
                                have Ny289 := Aside0.mk hy289
                                clear hy289
                                simp only [Option.some.injEq, Prod.mk.injEq] at H
                                obtain ⟨rfl, rfl, rfl⟩ := H
                                go_wp2_with (first | ((with_reducible refine gate_callee (f := 66) rfl ?_); refine goesL_ (some 68) rfl rfl Try.func66 (by kernel_rfl) rfl #[.pointer (some ⟨g, 0, none⟩), .int .i64 x4_3] rfl (by (try simp only [List.map_toArray, List.map_cons, List.map_nil]); first | done | rfl | (simp only [List.length_drop, List.length_take]; rfl)) ?_; (with_reducible refine (spec_l1Next.calls g s0_0 x1001_56 x1002_56 x4_3 t277 t278 t279 w0 _ ?side1 ?side2 A62.out).mono ?_); (case side1 => repeat (first | (with_reducible first | exact HI0.out | apply IsS98.alloc | apply IsS98.drewN | apply IsS98.drew | apply IsS98.set_1 | apply IsS98.set_2) | exact HI0.out)); (case side2 => repeat (first | (with_reducible first | exact HB.out | apply below_alloc | apply pw_below_drewN | apply below_drew1 | refine below_set ?_ (IsS98.ge HI0.out)) | exact HB.out)); rintro e w75 ⟨rfl, hi, hb, hk⟩; refine ⟨_, rfl, ?_⟩; have n0_ := Aside0.mk (Kd.R_mono (Kd.R_keep (IsS98.apart (show IsS98 w0 _ g s0_0 x1001_56 x1002_56 from by repeat (first | (with_reducible first | exact HI0.out | apply IsS98.alloc | apply IsS98.drewN | apply IsS98.drew | apply IsS98.set_1 | apply IsS98.set_2) | exact HI0.out)) (by (with_reducible repeat (first | apply Kd.R_alloc | apply Kd.R_drewN | apply Kd.R_drew)); exact HO_3.out) (by decide)) hk (fun _ h => h.2)) (fun _ h => h.1)); have n1_ := Aside0.mk (KeepBut.trans (by repeat (first | (with_reducible first | exact HK.out | apply KeepBut.set_ | apply keep_drewN | apply keep_drew | apply keep_alloc) | exact HK.out)) hk (.inl rfl)); have n2_ := Aside0.mk (hb); have n3_ := Aside0.mk (hi); clear HO_3; clear HK; clear HB; clear HI0; have HO_3 := n0_; have HK := n1_; have HB := n2_; have HI0 := n3_; clear n0_ n1_ n2_ n3_; (try clear hb); (try clear hb2); (try clear hk); (try clear hi)) | ((with_reducible refine gate_callee (f := 77) rfl ?_); refine goesL_ (some 70) rfl rfl Try.func77 (by kernel_rfl) rfl #[.pointer (some ⟨g, 0, none⟩)] rfl (by (try simp only [List.map_toArray, List.map_cons, List.map_nil]); first | done | rfl | (simp only [List.length_drop, List.length_take]; rfl)) ?_; (with_reducible refine (spec_l10DrawEntry.calls kj56 g s0_0 t278 t279 t280 t281 t282 t283 w0 _ ?side1 ?side2 A63.out).mono ?_); (case side1 => repeat (first | (with_reducible first | exact HI0.out | apply IsS98.alloc | apply IsS98.drewN | apply IsS98.drew | apply IsS98.set_1 | apply IsS98.set_2) | exact HI0.out)); (case side2 => repeat (first | (with_reducible first | exact HB.out | apply below_alloc | apply pw_below_drewN | apply below_drew1 | refine below_set ?_ (IsS98.ge HI0.out)) | exact HB.out)); rintro e w76 ⟨rfl, hi, hb, hk⟩; refine ⟨_, rfl, ?_⟩; have n0_ := Aside0.mk (Kd.R_mono (Kd.R_keep (IsS98.apart (show IsS98 w0 _ g s0_0 t278 t279 from by repeat (first | (with_reducible first | exact HI0.out | apply IsS98.alloc | apply IsS98.drewN | apply IsS98.drew | apply IsS98.set_1 | apply IsS98.set_2) | exact HI0.out)) (by (with_reducible repeat (first | apply Kd.R_alloc | apply Kd.R_drewN | apply Kd.R_drew)); exact HO_3.out) (by decide)) hk (fun _ h => h.2)) (fun _ h => h.1)); have n1_ := Aside0.mk (KeepBut.trans (by repeat (first | (with_reducible first | exact HK.out | apply KeepBut.set_ | apply keep_drewN | apply keep_drew | apply keep_alloc) | exact HK.out)) hk (.inl rfl)); have n2_ := Aside0.mk (hb); have n3_ := Aside0.mk (hi); clear HO_3; clear HK; clear HB; clear HI0; have HO_3 := n0_; have HK := n1_; have HB := n2_; have HI0 := n3_; clear n0_ n1_ n2_ n3_; (try clear hb); (try clear hb2); (try clear hk); (try clear hi); have p66 : 0 ≤ (t277 : Int) := of_decide_eq_true (by first | (with_reducible assumption) | assumption); have q66 : (t277 : Int) < ((x3_2.length : Int) : Int) := of_decide_eq_true (by first | (with_reducible assumption) | assumption); obtain ⟨go66, co66, eo66, gb66, gl66, cl66, HG66⟩ := Kd.R_form HO_3.out (by omega); (first | cases eo66 | (injection eo66 with ea_ en_ ec_; (first | subst ea_ | (injection ea_ with ea_; subst ea_)); subst ec_; clear en_)); have GB66 := Aside0.mk gb66; have GG66 := Aside0.mk HG66; clear gb66 gl66 HG66; obtain ⟨ce66, hcl66, hM66, hcc66, hfr66⟩ := Kd.R_elem HO_3.out z27 (t277 : Int) p66 q66; obtain rfl := k27_openM hM66; have hx66_0 : w76.cell? ⟨go66, (t277 : Int).toNat * 2, none⟩ = some (.int .i64 ((rd_T27 x3_2 t277).f0)) := hcc66 0 _ rfl; have hx66_1 : w76.cell? ⟨go66, (t277 : Int).toNat * 2 + 1, none⟩ = some (.string ((rd_T27 x3_2 t277).f1)) := hcc66 1 _ rfl; have hf66_0 : w76.frozen? ⟨go66, (t277 : Int).toNat * 2, none⟩ = false := hfr66 0; have hf66_1 : w76.frozen? ⟨go66, (t277 : Int).toNat * 2 + 1, none⟩ = false := hfr66 1; clear hcl66 hcc66 hfr66 hM66; replace p66 := eq_true p66; replace q66 := eq_true q66; have HX77 := Aside0.mk (show Kd.R k27 27 w76 w.heap.size (fun _ => True) (.slice (some ⟨go66, 0, none⟩) x3_2.length co66) x3_2 from (by (with_reducible repeat (first | apply Kd.R_alloc | apply Kd.R_drewN | apply Kd.R_drew)); exact HO_3.out)); obtain ⟨ce77, hcl77, hM77, hcc77, hfr77⟩ := Kd.R_elem HX77.out z27 (t277 : Int) (of_decide_eq_true (by first | (with_reducible assumption) | assumption)) (by have h_ : (t277 : Int) < ((x3_2.length : Int) : Int) := of_decide_eq_true (by first | (with_reducible assumption) | assumption); first | exact h_ | (have e_ := (Kd.R_reads' HO_3.out).1; omega) | simpa using h_); obtain rfl := k27_openM hM77; have HP77 := Kd.R_seg HX77.out (t277 : Int) (of_decide_eq_true (by first | (with_reducible assumption) | assumption)) (by have h_ : (t277 : Int) < ((x3_2.length : Int) : Int) := of_decide_eq_true (by first | (with_reducible assumption) | assumption); first | exact h_ | (have e_ := (Kd.R_reads' HO_3.out).1; omega) | simpa using h_) (seg := [.int .i64 t280, .string t281]) (j := 0) hcl77 hcc77 (show 2 ≤ 2 from by decide) (x' := (⟨t280, t281⟩ : S27)) (k27_mkM _ _ _ (⟨t280, t281⟩ : S27) ) (fun _ hk => hk); have hx77_0 := hcc77 0 _ rfl; (try simp only [show (k27).sz = 2 from rfl, Nat.mul_one, Nat.add_zero] at hx77_0); have hf77_0 := hfr77 0; (try simp only [show (k27).sz = 2 from rfl, Nat.mul_one, Nat.add_zero] at hf77_0); have hx77_1 := hcc77 1 _ rfl; (try simp only [show (k27).sz = 2 from rfl, Nat.mul_one, Nat.add_zero] at hx77_1); have hf77_1 := hfr77 1; (try simp only [show (k27).sz = 2 from rfl, Nat.mul_one, Nat.add_zero] at hf77_1); clear hcl77 hcc77 hfr77 hM77) | ((with_reducible refine gate_store (t := 27) (p := 71) rfl ?_); refine store_event (t := 27) (p := 71) (v := ?vo_w78) (w1 := ((w76.setCell ⟨go66, (t277 : Int).toNat * 2, none⟩ (.int .i64 t280)).setCell ⟨go66, (t277 : Int).toNat * 2 + 1, none⟩ (.string t281))) ?hg ?ho ?hn ?hr ?_; (case ho => rfl); (case hg => rfl); (case hn => rfl); (case hr => first | (go_simp; done) | (go_simp; rfl)); intro w78 hw; have hg : w76.grownBy w78 (some go66) := (by rw [hw]; exact HP77.2); have hp_ : Kd.R k27 27 w78 w.heap.size (fun _ => True) (.slice (some ⟨go66, 0, none⟩) x3_2.length co66) y284 := (by rw [hw, Ny284.out]; exact HP77.1); clear HP77; have n0_ := Aside0.mk (hp_); have n1_ := Aside0.mk (IsS98.grown (by first | exact HI0.out | exact IsS98.far (p := ⟨gb255, 1, none⟩) (IsS98.far (p := ⟨gb255, 0, none⟩) HI0.out NB0_255.out _) NB0_255.out _ | repeat (first | (with_reducible first | exact HI0.out | apply IsS98.alloc | apply IsS98.drewN | apply IsS98.drew | apply IsS98.set_1 | apply IsS98.set_2) | exact HI0.out)) hg (IsS98.own_ne HI0.out HO_3.out (by decide))); have n2_ := Aside0.mk ((by rw [hw]; exact below_set (below_set (HB.out) (Nat.le_trans HL.out GB66.out)) (Nat.le_trans HL.out GB66.out) : Below w0.heap.size w0 w78)); have n3_ := Aside0.mk (KeepBut.trans (by repeat (first | (with_reducible first | exact HK.out | apply KeepBut.set_ | apply keep_drewN | apply keep_drew | apply keep_alloc) | exact HK.out)) (KeepBut.of_grown hg g) (Kd.R_base2 HO_3.out)); clear HO_3; clear HI0; clear HB; clear HK; have HO_3 := n0_; have HI0 := n1_; have HB := n2_; have HK := n3_; clear n0_ n1_ n2_ n3_; clear hg hw hp_) | (go_at_call 76; (with_reducible refine (spec_l1Chance.calls g s0_0 t282 t283 10 true t286 t287 w0 _ ?side1 ?side2 A68.out).mono ?_); (case side1 => repeat (first | (with_reducible first | exact HI0.out | apply IsS98.alloc | apply IsS98.drewN | apply IsS98.drew | apply IsS98.set_1 | apply IsS98.set_2) | exact HI0.out)); (case side2 => repeat (first | (with_reducible first | exact HB.out | apply below_alloc | apply pw_below_drewN | apply below_drew1 | refine below_set ?_ (IsS98.ge HI0.out)) | exact HB.out)); rintro e w79 ⟨rfl, hi, hb, hk⟩; have n0_ := Aside0.mk (Kd.R_mono (Kd.R_keep (IsS98.apart (show IsS98 w0 _ g s0_0 t282 t283 from by repeat (first | (with_reducible first | exact HI0.out | apply IsS98.alloc | apply IsS98.drewN | apply IsS98.drew | apply IsS98.set_1 | apply IsS98.set_2) | exact HI0.out)) (by (with_reducible repeat (first | apply Kd.R_alloc | apply Kd.R_drewN | apply Kd.R_drew)); exact HO_3.out) (by decide)) hk (fun _ h => h.2)) (fun _ h => h.1)); have n1_ := Aside0.mk (KeepBut.trans (by repeat (first | (with_reducible first | exact HK.out | apply KeepBut.set_ | apply keep_drewN | apply keep_drew | apply keep_alloc) | exact HK.out)) hk (.inl rfl)); have n2_ := Aside0.mk (hb); have n3_ := Aside0.mk (hi); clear HO_3; clear HK; clear HB; clear HI0; have HO_3 := n0_; have HK := n1_; have HB := n2_; have HI0 := n3_; clear n0_ n1_ n2_ n3_; (try clear hb); (try clear hb2); (try clear hk); (try clear hi); have p288 : 0 ≤ ((ji70) : Int) := of_decide_eq_true (by first | (with_reducible assumption) | assumption); have q288 : (ji70) < (y284.length : Int) := (by have h_ : ((ji70) : Int) < ((x3_2.length : Int) : Int) := of_decide_eq_true (by first | (with_reducible assumption) | assumption); first | (have e_ := (Kd.R_reads' HO_3.out).1; omega) | simpa only [Ny284.out, List.length_set] using h_); have ql288 : (((ji70) : Int) < ((x3_2.length : Int) : Int)) = True := eq_true (of_decide_eq_true (by first | (with_reducible assumption) | assumption)); obtain ⟨ad288, e288, hx288_0, hx288_1⟩ := at_T27 (Kd.R_reads' HO_3.out).2.2 (ji70) p288 q288; obtain rfl : (⟨go66, 0, none⟩ : Addr) = ad288 := (by injection e288); (first | simp only [add_plain] at hx288_0 | simp only [add_at] at hx288_0 | simp only [Addr.add, Nat.zero_add] at hx288_0 | skip); (first | simp only [add_plain] at hx288_1 | simp only [add_at] at hx288_1 | simp only [Addr.add, Nat.zero_add] at hx288_1 | skip); replace p288 := eq_true p288; replace q288 := eq_true q288; have p74 : 0 ≤ (0 : Int) := (by omega); have q74 : (0 : Int) < ((x3_2.length : Int) : Int) := of_decide_eq_true (by first | (with_reducible assumption) | assumption); have qi74 : (0 < x3_2.length) = True := eq_true (by omega); obtain ⟨ce74, hcl74, hM74, hcc74, hfr74⟩ := Kd.R_elem HO_3.out z27 (0 : Int) p74 q74; obtain rfl := k27_openM hM74; have hx74_0 : w79.cell? ⟨go66, (0 : Int).toNat * 2, none⟩ = some (.int .i64 ((rd_T27 y284 0).f0)) := hcc74 0 _ rfl; have hx74_1 : w79.cell? ⟨go66, (0 : Int).toNat * 2 + 1, none⟩ = some (.string ((rd_T27 y284 0).f1)) := hcc74 1 _ rfl; have hf74_0 : w79.frozen? ⟨go66, (0 : Int).toNat * 2, none⟩ = false := hfr74 0; have hf74_1 : w79.frozen? ⟨go66, (0 : Int).toNat * 2 + 1, none⟩ = false := hfr74 1; clear hcl74 hcc74 hfr74 hM74; (try rw [show ((0 : Int)).toNat = 0 from rfl] at hx74_0); (try simp only [Nat.reduceMul, Nat.zero_mul, Nat.zero_add, Nat.reduceAdd] at hx74_0); (try rw [show ((0 : Int)).toNat = 0 from rfl] at hf74_0); (try simp only [Nat.reduceMul, Nat.zero_mul, Nat.zero_add, Nat.reduceAdd] at hf74_0); (try rw [show ((0 : Int)).toNat = 0 from rfl] at hx74_1); (try simp only [Nat.reduceMul, Nat.zero_mul, Nat.zero_add, Nat.reduceAdd] at hx74_1); (try rw [show ((0 : Int)).toNat = 0 from rfl] at hf74_1); (try simp only [Nat.reduceMul, Nat.zero_mul, Nat.zero_add, Nat.reduceAdd] at hf74_1); replace p74 := eq_true p74; replace q74 := eq_true q74; have HX80 := Aside0.mk (show Kd.R k27 27 w79 w.heap.size (fun _ => True) (.slice (some ⟨go66, 0, none⟩) x3_2.length co66) y284 from (by (with_reducible repeat (first | apply Kd.R_alloc | apply Kd.R_drewN | apply Kd.R_drew)); exact HO_3.out)); obtain ⟨ce80, hcl80, hM80, hcc80, hfr80⟩ := Kd.R_elem HX80.out z27 (0 : Int) (by omega) (by have h_ : (0 : Int) < ((x3_2.length : Int) : Int) := of_decide_eq_true (by first | (with_reducible assumption) | assumption); first | exact h_ | (have e_ := (Kd.R_reads' HO_3.out).1; omega) | simpa using h_); obtain rfl := k27_openM hM80; have HP80 := Kd.R_seg HX80.out (0 : Int) (by omega) (by have h_ : (0 : Int) < ((x3_2.length : Int) : Int) := of_decide_eq_true (by first | (with_reducible assumption) | assumption); first | exact h_ | (have e_ := (Kd.R_reads' HO_3.out).1; omega) | simpa using h_) (seg := [.string ((rd_T27 y284 (ji70)).f1)]) (j := 1) hcl80 hcc80 (show 2 ≤ 2 from by decide) (x' := (⟨(rd_T27 y284 0).f0, (rd_T27 y284 (ji70)).f1⟩ : S27)) (k27_mkM _ _ _ (⟨(rd_T27 y284 0).f0, (rd_T27 y284 (ji70)).f1⟩ : S27) ) (fun _ hk => hk); have hx80_1 := hcc80 1 _ rfl; (try simp only [show (k27).sz = 2 from rfl, Nat.mul_one, Nat.add_zero] at hx80_1); (try rw [show ((0 : Int)).toNat = 0 from rfl] at hx80_1); (try simp only [Nat.reduceMul, Nat.zero_mul, Nat.zero_add, Nat.reduceAdd] at hx80_1); have hf80_1 := hfr80 1; (try simp only [show (k27).sz = 2 from rfl, Nat.mul_one, Nat.add_zero] at hf80_1); (try rw [show ((0 : Int)).toNat = 0 from rfl] at hf80_1); (try simp only [Nat.reduceMul, Nat.zero_mul, Nat.zero_add, Nat.reduceAdd] at hf80_1); clear hcl80 hcc80 hfr80 hM80) | ((with_reducible refine gate_store (t := 9) (p := 86) rfl ?_); refine store_event (t := 9) (p := 86) (v := ?vo_w81) (w1 := (w79.setCell ⟨go66, 1, none⟩ (.string ((rd_T27 y284 (ji70)).f1)))) ?hg ?ho ?hn ?hr ?_; (case ho => rfl); (case hg => rfl); (case hn => rfl); (case hr => first | (go_simp; done) | (go_simp; rfl)); intro w81 hw; have hg : w79.grownBy w81 (some go66) := (by rw [hw]; exact HP80.2); have hp_ : Kd.R k27 27 w81 w.heap.size (fun _ => True) (.slice (some ⟨go66, 0, none⟩) x3_2.length co66) y289 := (by rw [hw, Ny289.out]; exact HP80.1); clear HP80; have n0_ := Aside0.mk (hp_); have n1_ := Aside0.mk (IsS98.grown (by first | exact HI0.out | exact IsS98.far (p := ⟨gb255, 1, none⟩) (IsS98.far (p := ⟨gb255, 0, none⟩) HI0.out NB0_255.out _) NB0_255.out _ | repeat (first | (with_reducible first | exact HI0.out | apply IsS98.alloc | apply IsS98.drewN | apply IsS98.drew | apply IsS98.set_1 | apply IsS98.set_2) | exact HI0.out)) hg (IsS98.own_ne HI0.out HO_3.out (by decide))); have n2_ := Aside0.mk ((by rw [hw]; exact below_set (HB.out) (Nat.le_trans HL.out GB66.out) : Below w0.heap.size w0 w81)); have n3_ := Aside0.mk (KeepBut.trans (by repeat (first | (with_reducible first | exact HK.out | apply KeepBut.set_ | apply keep_drewN | apply keep_drew | apply keep_alloc) | exact HK.out)) (KeepBut.of_grown hg g) (Kd.R_base2 HO_3.out)); clear HO_3; clear HI0; clear HB; clear HK; have HO_3 := n0_; have HI0 := n1_; have HB := n2_; have HK := n3_; clear n0_ n1_ n2_ n3_; clear hg hw hp_))
                                go_ret
                                exact ⟨_, by first | rfl | (simp [errW_none, errW_some] <;> rfl) | (simp only [← hji70]; first | rfl | (simp [errW_none, errW_some] <;> rfl)) | (simp [*, errW_none, errW_some] <;> rfl), by (with_reducible repeat (first | apply Kd.R_alloc | apply Kd.R_drewN | apply Kd.R_drew)); exact HO_3.out, by repeat (first | (with_reducible first | exact HI0.out | apply IsS98.alloc | apply IsS98.drewN | apply IsS98.drew | apply IsS98.set_1 | apply IsS98.set_2) | exact HI0.out), by repeat (first | (with_reducible first | exact HB.out | apply below_alloc | apply pw_below_drewN | apply below_drew1 | refine below_set ?_ (IsS98.ge HI0.out)) | exact HB.out), by repeat (first | (with_reducible first | exact HK.out | apply KeepBut.set_ | apply keep_drewN | apply keep_drew | apply keep_alloc) | exact HK.out)⟩
                              · rw [if_neg c73] at H
                                exact absurd H (by simp)
                            · rw [if_neg c72] at H
                              exact absurd H (by simp)
                          · rw [if_neg c71] at H
                            exact absurd H (by simp)
                        · replace c69 := Bool.eq_false_iff.mpr c69
                          subst c69
                          have H1 : (some (y284, t286, t287)) = some (r1, r2, r3) := by rw [if_neg (show ¬ (false = true) by decide)] at H; exact H
                          clear H
                          have H := H1
                          clear H1
                          simp only [Option.some.injEq, Prod.mk.injEq] at H
                          obtain ⟨rfl, rfl, rfl⟩ := H
                          go_wp2_with (first | ((with_reducible refine gate_callee (f := 66) rfl ?_); refine goesL_ (some 68) rfl rfl Try.func66 (by kernel_rfl) rfl #[.pointer (some ⟨g, 0, none⟩), .int .i64 x4_3] rfl (by (try simp only [List.map_toArray, List.map_cons, List.map_nil]); first | done | rfl | (simp only [List.length_drop, List.length_take]; rfl)) ?_; (with_reducible refine (spec_l1Next.calls g s0_0 x1001_56 x1002_56 x4_3 t277 t278 t279 w0 _ ?side1 ?side2 A62.out).mono ?_); (case side1 => repeat (first | (with_reducible first | exact HI0.out | apply IsS98.alloc | apply IsS98.drewN | apply IsS98.drew | apply IsS98.set_1 | apply IsS98.set_2) | exact HI0.out)); (case side2 => repeat (first | (with_reducible first | exact HB.out | apply below_alloc | apply pw_below_drewN | apply below_drew1 | refine below_set ?_ (IsS98.ge HI0.out)) | exact HB.out)); rintro e w82 ⟨rfl, hi, hb, hk⟩; refine ⟨_, rfl, ?_⟩; have n0_ := Aside0.mk (Kd.R_mono (Kd.R_keep (IsS98.apart (show IsS98 w0 _ g s0_0 x1001_56 x1002_56 from by repeat (first | (with_reducible first | exact HI0.out | apply IsS98.alloc | apply IsS98.drewN | apply IsS98.drew | apply IsS98.set_1 | apply IsS98.set_2) | exact HI0.out)) (by (with_reducible repeat (first | apply Kd.R_alloc | apply Kd.R_drewN | apply Kd.R_drew)); exact HO_3.out) (by decide)) hk (fun _ h => h.2)) (fun _ h => h.1)); have n1_ := Aside0.mk (KeepBut.trans (by repeat (first | (with_reducible first | exact HK.out | apply KeepBut.set_ | apply keep_drewN | apply keep_drew | apply keep_alloc) | exact HK.out)) hk (.inl rfl)); have n2_ := Aside0.mk (hb); have n3_ := Aside0.mk (hi); clear HO_3; clear HK; clear HB; clear HI0; have HO_3 := n0_; have HK := n1_; have HB := n2_; have HI0 := n3_; clear n0_ n1_ n2_ n3_; (try clear hb); (try clear hb2); (try clear hk); (try clear hi)) | ((with_reducible refine gate_callee (f := 77) rfl ?_); refine goesL_ (some 70) rfl rfl Try.func77 (by kernel_rfl) rfl #[.pointer (some ⟨g, 0, none⟩)] rfl (by (try simp only [List.map_toArray, List.map_cons, List.map_nil]); first | done | rfl | (simp only [List.length_drop, List.length_take]; rfl)) ?_; (with_reducible refine (spec_l10DrawEntry.calls kj56 g s0_0 t278 t279 t280 t281 t282 t283 w0 _ ?side1 ?side2 A63.out).mono ?_); (case side1 => repeat (first | (with_reducible first | exact HI0.out | apply IsS98.alloc | apply IsS98.drewN | apply IsS98.drew | apply IsS98.set_1 | apply IsS98.set_2) | exact HI0.out)); (case side2 => repeat (first | (with_reducible first | exact HB.out | apply below_alloc | apply pw_below_drewN | apply below_drew1 | refine below_set ?_ (IsS98.ge HI0.out)) | exact HB.out)); rintro e w83 ⟨rfl, hi, hb, hk⟩; refine ⟨_, rfl, ?_⟩; have n0_ := Aside0.mk (Kd.R_mono (Kd.R_keep (IsS98.apart (show IsS98 w0 _ g s0_0 t278 t279 from by repeat (first | (with_reducible first | exact HI0.out | apply IsS98.alloc | apply IsS98.drewN | apply IsS98.drew | apply IsS98.set_1 | apply IsS98.set_2) | exact HI0.out)) (by (with_reducible repeat (first | apply Kd.R_alloc | apply Kd.R_drewN | apply Kd.R_drew)); exact HO_3.out) (by decide)) hk (fun _ h => h.2)) (fun _ h => h.1)); have n1_ := Aside0.mk (KeepBut.trans (by repeat (first | (with_reducible first | exact HK.out | apply KeepBut.set_ | apply keep_drewN | apply keep_drew | apply keep_alloc) | exact HK.out)) hk (.inl rfl)); have n2_ := Aside0.mk (hb); have n3_ := Aside0.mk (hi); clear HO_3; clear HK; clear HB; clear HI0; have HO_3 := n0_; have HK := n1_; have HB := n2_; have HI0 := n3_; clear n0_ n1_ n2_ n3_; (try clear hb); (try clear hb2); (try clear hk); (try clear hi); have p66 : 0 ≤ (t277 : Int) := of_decide_eq_true (by first | (with_reducible assumption) | assumption); have q66 : (t277 : Int) < ((x3_2.length : Int) : Int) := of_decide_eq_true (by first | (with_reducible assumption) | assumption); obtain ⟨go66, co66, eo66, gb66, gl66, cl66, HG66⟩ := Kd.R_form HO_3.out (by omega); (first | cases eo66 | (injection eo66 with ea_ en_ ec_; (first | subst ea_ | (injection ea_ with ea_; subst ea_)); subst ec_; clear en_)); have GB66 := Aside0.mk gb66; have GG66 := Aside0.mk HG66; clear gb66 gl66 HG66; obtain ⟨ce66, hcl66, hM66, hcc66, hfr66⟩ := Kd.R_elem HO_3.out z27 (t277 : Int) p66 q66; obtain rfl := k27_openM hM66; have hx66_0 : w83.cell? ⟨go66, (t277 : Int).toNat * 2, none⟩ = some (.int .i64 ((rd_T27 x3_2 t277).f0)) := hcc66 0 _ rfl; have hx66_1 : w83.cell? ⟨go66, (t277 : Int).toNat * 2 + 1, none⟩ = some (.string ((rd_T27 x3_2 t277).f1)) := hcc66 1 _ rfl; have hf66_0 : w83.frozen? ⟨go66, (t277 : Int).toNat * 2, none⟩ = false := hfr66 0; have hf66_1 : w83.frozen? ⟨go66, (t277 : Int).toNat * 2 + 1, none⟩ = false := hfr66 1; clear hcl66 hcc66 hfr66 hM66; replace p66 := eq_true p66; replace q66 := eq_true q66; have HX84 := Aside0.mk (show Kd.R k27 27 w83 w.heap.size (fun _ => True) (.slice (some ⟨go66, 0, none⟩) x3_2.length co66) x3_2 from (by (with_reducible repeat (first | apply Kd.R_alloc | apply Kd.R_drewN | apply Kd.R_drew)); exact HO_3.out)); obtain ⟨ce84, hcl84, hM84, hcc84, hfr84⟩ := Kd.R_elem HX84.out z27 (t277 : Int) (of_decide_eq_true (by first | (with_reducible assumption) | assumption)) (by have h_ : (t277 : Int) < ((x3_2.length : Int) : Int) := of_decide_eq_true (by first | (with_reducible assumption) | assumption); first | exact h_ | (have e_ := (Kd.R_reads' HO_3.out).1; omega) | simpa using h_); obtain rfl := k27_openM hM84; have HP84 := Kd.R_seg HX84.out (t277 : Int) (of_decide_eq_true (by first | (with_reducible assumption) | assumption)) (by have h_ : (t277 : Int) < ((x3_2.length : Int) : Int) := of_decide_eq_true (by first | (with_reducible assumption) | assumption); first | exact h_ | (have e_ := (Kd.R_reads' HO_3.out).1; omega) | simpa using h_) (seg := [.int .i64 t280, .string t281]) (j := 0) hcl84 hcc84 (show 2 ≤ 2 from by decide) (x' := (⟨t280, t281⟩ : S27)) (k27_mkM _ _ _ (⟨t280, t281⟩ : S27) ) (fun _ hk => hk); have hx84_0 := hcc84 0 _ rfl; (try simp only [show (k27).sz = 2 from rfl, Nat.mul_one, Nat.add_zero] at hx84_0); have hf84_0 := hfr84 0; (try simp only [show (k27).sz = 2 from rfl, Nat.mul_one, Nat.add_zero] at hf84_0); have hx84_1 := hcc84 1 _ rfl; (try simp only [show (k27).sz = 2 from rfl, Nat.mul_one, Nat.add_zero] at hx84_1); have hf84_1 := hfr84 1; (try simp only [show (k27).sz = 2 from rfl, Nat.mul_one, Nat.add_zero] at hf84_1); clear hcl84 hcc84 hfr84 hM84) | ((with_reducible refine gate_store (t := 27) (p := 71) rfl ?_); refine store_event (t := 27) (p := 71) (v := ?vo_w85) (w1 := ((w83.setCell ⟨go66, (t277 : Int).toNat * 2, none⟩ (.int .i64 t280)).setCell ⟨go66, (t277 : Int).toNat * 2 + 1, none⟩ (.string t281))) ?hg ?ho ?hn ?hr ?_; (case ho => rfl); (case hg => rfl); (case hn => rfl); (case hr => first | (go_simp; done) | (go_simp; rfl)); intro w85 hw; have hg : w83.grownBy w85 (some go66) := (by rw [hw]; exact HP84.2); have hp_ : Kd.R k27 27 w85 w.heap.size (fun _ => True) (.slice (some ⟨go66, 0, none⟩) x3_2.length co66) y284 := (by rw [hw, Ny284.out]; exact HP84.1); clear HP84; have n0_ := Aside0.mk (hp_); have n1_ := Aside0.mk (IsS98.grown (by first | exact HI0.out | exact IsS98.far (p := ⟨gb255, 1, none⟩) (IsS98.far (p := ⟨gb255, 0, none⟩) HI0.out NB0_255.out _) NB0_255.out _ | repeat (first | (with_reducible first | exact HI0.out | apply IsS98.alloc | apply IsS98.drewN | apply IsS98.drew | apply IsS98.set_1 | apply IsS98.set_2) | exact HI0.out)) hg (IsS98.own_ne HI0.out HO_3.out (by decide))); have n2_ := Aside0.mk ((by rw [hw]; exact below_set (below_set (HB.out) (Nat.le_trans HL.out GB66.out)) (Nat.le_trans HL.out GB66.out) : Below w0.heap.size w0 w85)); have n3_ := Aside0.mk (KeepBut.trans (by repeat (first | (with_reducible first | exact HK.out | apply KeepBut.set_ | apply keep_drewN | apply keep_drew | apply keep_alloc) | exact HK.out)) (KeepBut.of_grown hg g) (Kd.R_base2 HO_3.out)); clear HO_3; clear HI0; clear HB; clear HK; have HO_3 := n0_; have HI0 := n1_; have HB := n2_; have HK := n3_; clear n0_ n1_ n2_ n3_; clear hg hw hp_) | (go_at_call 76; (with_reducible refine (spec_l1Chance.calls g s0_0 t282 t283 10 false t286 t287 w0 _ ?side1 ?side2 A68.out).mono ?_); (case side1 => repeat (first | (with_reducible first | exact HI0.out | apply IsS98.alloc | apply IsS98.drewN | apply IsS98.drew | apply IsS98.set_1 | apply IsS98.set_2) | exact HI0.out)); (case side2 => repeat (first | (with_reducible first | exact HB.out | apply below_alloc | apply pw_below_drewN | apply below_drew1 | refine below_set ?_ (IsS98.ge HI0.out)) | exact HB.out)); rintro e w86 ⟨rfl, hi, hb, hk⟩; have n0_ := Aside0.mk (Kd.R_mono (Kd.R_keep (IsS98.apart (show IsS98 w0 _ g s0_0 t282 t283 from by repeat (first | (with_reducible first | exact HI0.out | apply IsS98.alloc | apply IsS98.drewN | apply IsS98.drew | apply IsS98.set_1 | apply IsS98.set_2) | exact HI0.out)) (by (with_reducible repeat (first | apply Kd.R_alloc | apply Kd.R_drewN | apply Kd.R_drew)); exact HO_3.out) (by decide)) hk (fun _ h => h.2)) (fun _ h => h.1)); have n1_ := Aside0.mk (KeepBut.trans (by repeat (first | (with_reducible first | exact HK.out | apply KeepBut.set_ | apply keep_drewN | apply keep_drew | apply keep_alloc) | exact HK.out)) hk (.inl rfl)); have n2_ := Aside0.mk (hb); have n3_ := Aside0.mk (hi); clear HO_3; clear HK; clear HB; clear HI0; have HO_3 := n0_; have HK := n1_; have HB := n2_; have HI0 := n3_; clear n0_ n1_ n2_ n3_; (try clear hb); (try clear hb2); (try clear hk); (try clear hi)))
                          go_ret
                          exact ⟨_, by first | rfl | (simp [errW_none, errW_some] <;> rfl) | (simp [*, errW_none, errW_some] <;> rfl), by (with_reducible repeat (first | apply Kd.R_alloc | apply Kd.R_drewN | apply Kd.R_drew)); exact HO_3.out, by repeat (first | (with_reducible first | exact HI0.out | apply IsS98.alloc | apply IsS98.drewN | apply IsS98.drew | apply IsS98.set_1 | apply IsS98.set_2) | exact HI0.out), by repeat (first | (with_reducible first | exact HB.out | apply below_alloc | apply pw_below_drewN | apply below_drew1 | refine below_set ?_ (IsS98.ge HI0.out)) | exact HB.out), by repeat (first | (with_reducible first | exact HK.out | apply KeepBut.set_ | apply keep_drewN | apply keep_drew | apply keep_alloc) | exact HK.out)⟩
                      · rw [if_neg c67] at H
                        have c67b0 : decide (1 < x4_3) = false := decide_eq_false c67
                        clear c67
                        simp only [Option.some.injEq, Prod.mk.injEq] at H
                        obtain ⟨rfl, rfl, rfl⟩ := H
                        go_wp2_with (first | ((with_reducible refine gate_callee (f := 66) rfl ?_); refine goesL_ (some 68) rfl rfl Try.func66 (by kernel_rfl) rfl #[.pointer (some ⟨g, 0, none⟩), .int .i64 x4_3] rfl (by (try simp only [List.map_toArray, List.map_cons, List.map_nil]); first | done | rfl | (simp only [List.length_drop, List.length_take]; rfl)) ?_; (with_reducible refine (spec_l1Next.calls g s0_0 x1001_56 x1002_56 x4_3 t277 t278 t279 w0 _ ?side1 ?side2 A62.out).mono ?_); (case side1 => repeat (first | (with_reducible first | exact HI0.out | apply IsS98.alloc | apply IsS98.drewN | apply IsS98.drew | apply IsS98.set_1 | apply IsS98.set_2) | exact HI0.out)); (case side2 => repeat (first | (with_reducible first | exact HB.out | apply below_alloc | apply pw_below_drewN | apply below_drew1 | refine below_set ?_ (IsS98.ge HI0.out)) | exact HB.out)); rintro e w87 ⟨rfl, hi, hb, hk⟩; refine ⟨_, rfl, ?_⟩; have n0_ := Aside0.mk (Kd.R_mono (Kd.R_keep (IsS98.apart (show IsS98 w0 _ g s0_0 x1001_56 x1002_56 from by repeat (first | (with_reducible first | exact HI0.out | apply IsS98.alloc | apply IsS98.drewN | apply IsS98.drew | apply IsS98.set_1 | apply IsS98.set_2) | exact HI0.out)) (by (with_reducible repeat (first | apply Kd.R_alloc | apply Kd.R_drewN | apply Kd.R_drew)); exact HO_3.out) (by decide)) hk (fun _ h => h.2)) (fun _ h => h.1)); have n1_ := Aside0.mk (KeepBut.trans (by repeat (first | (with_reducible first | exact HK.out | apply KeepBut.set_ | apply keep_drewN | apply keep_drew | apply keep_alloc) | exact HK.out)) hk (.inl rfl)); have n2_ := Aside0.mk (hb); have n3_ := Aside0.mk (hi); clear HO_3; clear HK; clear HB; clear HI0; have HO_3 := n0_; have HK := n1_; have HB := n2_; have HI0 := n3_; clear n0_ n1_ n2_ n3_; (try clear hb); (try clear hb2); (try clear hk); (try clear hi)) | ((with_reducible refine gate_callee (f := 77) rfl ?_); refine goesL_ (some 70) rfl rfl Try.func77 (by kernel_rfl) rfl #[.pointer (some ⟨g, 0, none⟩)] rfl (by (try simp only [List.map_toArray, List.map_cons, List.map_nil]); first | done | rfl | (simp only [List.length_drop, List.length_take]; rfl)) ?_; (with_reducible refine (spec_l10DrawEntry.calls kj56 g s0_0 t278 t279 t280 t281 t282 t283 w0 _ ?side1 ?side2 A63.out).mono ?_); (case side1 => repeat (first | (with_reducible first | exact HI0.out | apply IsS98.alloc | apply IsS98.drewN | apply IsS98.drew | apply IsS98.set_1 | apply IsS98.set_2) | exact HI0.out)); (case side2 => repeat (first | (with_reducible first | exact HB.out | apply below_alloc | apply pw_below_drewN | apply below_drew1 | refine below_set ?_ (IsS98.ge HI0.out)) | exact HB.out)); rintro e w88 ⟨rfl, hi, hb, hk⟩; refine ⟨_, rfl, ?_⟩; have n0_ := Aside0.mk (Kd.R_mono (Kd.R_keep (IsS98.apart (show IsS98 w0 _ g s0_0 t278 t279 from by repeat (first | (with_reducible first | exact HI0.out | apply IsS98.alloc | apply IsS98.drewN | apply IsS98.drew | apply IsS98.set_1 | apply IsS98.set_2) | exact HI0.out)) (by (with_reducible repeat (first | apply Kd.R_alloc | apply Kd.R_drewN | apply Kd.R_drew)); exact HO_3.out) (by decide)) hk (fun _ h => h.2)) (fun _ h => h.1)); have n1_ := Aside0.mk (KeepBut.trans (by repeat (first | (with_reducible first | exact HK.out | apply KeepBut.set_ | apply keep_drewN | apply keep_drew | apply keep_alloc) | exact HK.out)) hk (.inl rfl)); have n2_ := Aside0.mk (hb); have n3_ := Aside0.mk (hi); clear HO_3; clear HK; clear HB; clear HI0; have HO_3 := n0_; have HK := n1_; have HB := n2_; have HI0 := n3_; clear n0_ n1_ n2_ n3_; (try clear hb); (try clear hb2); (try clear hk); (try clear hi); have p66 : 0 ≤ (t277 : Int) := of_decide_eq_true (by first | (with_reducible assumption) | assumption); have q66 : (t277 : Int) < ((x3_2.length : Int) : Int) := of_decide_eq_true (by first | (with_reducible assumption) | assumption); obtain ⟨go66, co66, eo66, gb66, gl66, cl66, HG66⟩ := Kd.R_form HO_3.out (by omega); (first | cases eo66 | (injection eo66 with ea_ en_ ec_; (first | subst ea_ | (injection ea_ with ea_; subst ea_)); subst ec_; clear en_)); have GB66 := Aside0.mk gb66; have GG66 := Aside0.mk HG66; clear gb66 gl66 HG66; obtain ⟨ce66, hcl66, hM66, hcc66, hfr66⟩ := Kd.R_elem HO_3.out z27 (t277 : Int) p66 q66; obtain rfl := k27_openM hM66; have hx66_0 : w88.cell? ⟨go66, (t277 : Int).toNat * 2, none⟩ = some (.int .i64 ((rd_T27 x3_2 t277).f0)) := hcc66 0 _ rfl; have hx66_1 : w88.cell? ⟨go66, (t277 : Int).toNat * 2 + 1, none⟩ = some (.string ((rd_T27 x3_2 t277).f1)) := hcc66 1 _ rfl; have hf66_0 : w88.frozen? ⟨go66, (t277 : Int).toNat * 2, none⟩ = false := hfr66 0; have hf66_1 : w88.frozen? ⟨go66, (t277 : Int).toNat * 2 + 1, none⟩ = false := hfr66 1; clear hcl66 hcc66 hfr66 hM66; replace p66 := eq_true p66; replace q66 := eq_true q66; have HX89 := Aside0.mk (show Kd.R k27 27 w88 w.heap.size (fun _ => True) (.slice (some ⟨go66, 0, none⟩) x3_2.length co66) x3_2 from (by (with_reducible repeat (first | apply Kd.R_alloc | apply Kd.R_drewN | apply Kd.R_drew)); exact HO_3.out)); obtain ⟨ce89, hcl89, hM89, hcc89, hfr89⟩ := Kd.R_elem HX89.out z27 (t277 : Int) (of_decide_eq_true (by first | (with_reducible assumption) | assumption)) (by have h_ : (t277 : Int) < ((x3_2.length : Int) : Int) := of_decide_eq_true (by first | (with_reducible assumption) | assumption); first | exact h_ | (have e_ := (Kd.R_reads' HO_3.out).1; omega) | simpa using h_); obtain rfl := k27_openM hM89; have HP89 := Kd.R_seg HX89.out (t277 : Int) (of_decide_eq_true (by first | (with_reducible assumption) | assumption)) (by have h_ : (t277 : Int) < ((x3_2.length : Int) : Int) := of_decide_eq_true (by first | (with_reducible assumption) | assumption); first | exact h_ | (have e_ := (Kd.R_reads' HO_3.out).1; omega) | simpa using h_) (seg := [.int .i64 t280, .string t281]) (j := 0) hcl89 hcc89 (show 2 ≤ 2 from by decide) (x' := (⟨t280, t281⟩ : S27)) (k27_mkM _ _ _ (⟨t280, t281⟩ : S27) ) (fun _ hk => hk); have hx89_0 := hcc89 0 _ rfl; (try simp only [show (k27).sz = 2 from rfl, Nat.mul_one, Nat.add_zero] at hx89_0); have hf89_0 := hfr89 0; (try simp only [show (k27).sz = 2 from rfl, Nat.mul_one, Nat.add_zero] at hf89_0); have hx89_1 := hcc89 1 _ rfl; (try simp only [show (k27).sz = 2 from rfl, Nat.mul_one, Nat.add_zero] at hx89_1); have hf89_1 := hfr89 1; (try simp only [show (k27).sz = 2 from rfl, Nat.mul_one, Nat.add_zero] at hf89_1); clear hcl89 hcc89 hfr89 hM89) | ((with_reducible refine gate_store (t := 27) (p := 71) rfl ?_); refine store_event (t := 27) (p := 71) (v := ?vo_w90) (w1 := ((w88.setCell ⟨go66, (t277 : Int).toNat * 2, none⟩ (.int .i64 t280)).setCell ⟨go66, (t277 : Int).toNat * 2 + 1, none⟩ (.string t281))) ?hg ?ho ?hn ?hr ?_; (case ho => rfl); (case hg => rfl); (case hn => rfl); (case hr => first | (go_simp; done) | (go_simp; rfl)); intro w90 hw; have hg : w88.grownBy w90 (some go66) := (by rw [hw]; exact HP89.2); have hp_ : Kd.R k27 27 w90 w.heap.size (fun _ => True) (.slice (some ⟨go66, 0, none⟩) x3_2.length co66) y284 := (by rw [hw, Ny284.out]; exact HP89.1); clear HP89; have n0_ := Aside0.mk (hp_); have n1_ := Aside0.mk (IsS98.grown (by first | exact HI0.out | exact IsS98.far (p := ⟨gb255, 1, none⟩) (IsS98.far (p := ⟨gb255, 0, none⟩) HI0.out NB0_255.out _) NB0_255.out _ | repeat (first | (with_reducible first | exact HI0.out | apply IsS98.alloc | apply IsS98.drewN | apply IsS98.drew | apply IsS98.set_1 | apply IsS98.set_2) | exact HI0.out)) hg (IsS98.own_ne HI0.out HO_3.out (by decide))); have n2_ := Aside0.mk ((by rw [hw]; exact below_set (below_set (HB.out) (Nat.le_trans HL.out GB66.out)) (Nat.le_trans HL.out GB66.out) : Below w0.heap.size w0 w90)); have n3_ := Aside0.mk (KeepBut.trans (by repeat (first | (with_reducible first | exact HK.out | apply KeepBut.set_ | apply keep_drewN | apply keep_drew | apply keep_alloc) | exact HK.out)) (KeepBut.of_grown hg g) (Kd.R_base2 HO_3.out)); clear HO_3; clear HI0; clear HB; clear HK; have HO_3 := n0_; have HI0 := n1_; have HB := n2_; have HK := n3_; clear n0_ n1_ n2_ n3_; clear hg hw hp_))
                        go_ret
                        exact ⟨_, by first | rfl | (simp [errW_none, errW_some] <;> rfl) | (simp [*, errW_none, errW_some] <;> rfl), by (with_reducible repeat (first | apply Kd.R_alloc | apply Kd.R_drewN | apply Kd.R_drew)); exact HO_3.out, by repeat (first | (with_reducible first | exact HI0.out | apply IsS98.alloc | apply IsS98.drewN | apply IsS98.drew | apply IsS98.set_1 | apply IsS98.set_2) | exact HI0.out), by repeat (first | (with_reducible first | exact HB.out | apply below_alloc | apply pw_below_drewN | apply below_drew1 | refine below_set ?_ (IsS98.ge HI0.out)) | exact HB.out), by repeat (first | (with_reducible first | exact HK.out | apply KeepBut.set_ | apply keep_drewN | apply keep_drew | apply keep_alloc) | exact HK.out)⟩
                    · rw [if_neg c65] at H
                      exact absurd H (by simp)
                  · rw [if_neg c64] at H
                    exact absurd H (by simp)
                · replace c61 := Bool.eq_false_iff.mpr c61
                  subst c61
                  have H1 : (if x4_3 > 1 then ((spec_l1Chance.f s0_0 x1001_56 x1002_56 10).bind fun bt290 => (if bt290.1 = true then (if 0 ≤ (wrap64 (x4_3 - 1)) then (if (wrap64 (x4_3 - 1)) < (x3_2.length : Int) then (if 0 < (x3_2.length : Int) then (some ((x3_2.set (0 : Int).toNat (⟨(rd_T27 x3_2 0).f0, (rd_T27 x3_2 (wrap64 (x4_3 - 1))).f1⟩ : S27)), bt290.2.1, bt290.2.2)) else (none)) else (none)) else (none)) else (some (x3_2, bt290.2.1, bt290.2.2)))) else (some (x3_2, x1001_56, x1002_56))) = some (r1, r2, r3) := by rw [if_neg (show ¬ (false = true) by decide)] at H; exact H
                  clear H
                  have H := H1
                  clear H1
                  by_cases c91 : x4_3 > 1
                  · rw [if_pos c91] at H
                    have c91b0 : decide (1 < x4_3) = true := decide_eq_true c91
                    clear c91
                    replace H := Option.bind_eq_some_iff.mp H
                    obtain ⟨⟨t290, t291, t292⟩, A920, H⟩ := H
                    replace H : (if t290 = true then (if 0 ≤ (wrap64 (x4_3 - 1)) then (if (wrap64 (x4_3 - 1)) < (x3_2.length : Int) then (if 0 < (x3_2.length : Int) then (some ((x3_2.set (0 : Int).toNat (⟨(rd_T27 x3_2 0).f0, (rd_T27 x3_2 (wrap64 (x4_3 - 1))).f1⟩ : S27)), t291, t292)) else (none)) else (none)) else (none)) else (some (x3_2, t291, t292))) = some (r1, r2, r3) := H
                    have A92 := Aside0.mk A920
                    clear A920
                    by_cases c93 : t290 = true
                    · subst c93
                      have H1 : (if 0 ≤ (wrap64 (x4_3 - 1)) then (if (wrap64 (x4_3 - 1)) < (x3_2.length : Int) then (if 0 < (x3_2.length : Int) then (some ((x3_2.set (0 : Int).toNat (⟨(rd_T27 x3_2 0).f0, (rd_T27 x3_2 (wrap64 (x4_3 - 1))).f1⟩ : S27)), t291, t292)) else (none)) else (none)) else (none)) = some (r1, r2, r3) := by rw [if_pos rfl] at H; exact H
                      clear H
                      have H := H1
                      clear H1
                      obtain ⟨ji94, hji94⟩ : ∃ j_ : Int, (wrap64 (x4_3 - 1)) = j_ := ⟨_, rfl⟩
                      replace H : (if 0 ≤ (ji94) then (if (ji94) < (x3_2.length : Int) then (if 0 < (x3_2.length : Int) then (some ((x3_2.set (0 : Int).toNat (⟨(rd_T27 x3_2 0).f0, (rd_T27 x3_2 (ji94)).f1⟩ : S27)), t291, t292)) else (none)) else (none)) else (none)) = some (r1, r2, r3) := by first | (rw [hji94] at H; exact H) | (simp only [hji94] at H ⊢; exact H)
                      (try rw [hji94] at A92)
                      have hji94w : (IntKind.i64.wrap (x4_3 - 1)) = ji94 := (i64_w _).trans hji94
                      by_cases c95 : 0 ≤ (ji94)
                      · rw [if_pos c95] at H
                        have c95b0 : decide (0 ≤ (ji94)) = true := decide_eq_true c95
                        clear c95
                        by_cases c96 : (ji94) < (x3_2.length : Int)
                        · rw [if_pos c96] at H
                          have c96b0 : decide ((ji94) < (x3_2.length : Int)) = true := decide_eq_true c96
                          clear c96
                          by_cases c97 : 0 < (x3_2.length : Int)
                          · rw [if_pos c97] at H
                            have c97b0 : decide (0 < (x3_2.length : Int)) = true := decide_eq_true c97
                            have c97b1 : decide (0 < x3_2.length) = true := decide_eq_true (by omega)
                            clear c97
                            obtain ⟨y294, hy294⟩ : ∃ y_ : List (S27), y_ = (x3_2.set (0 : Int).toNat (⟨(rd_T27 x3_2 0).f0, (rd_T27 x3_2 (ji94)).f1⟩ : S27)) := ⟨_, rfl⟩
                            replace H : (some (y294, t291, t292)) = some (r1, r2, r3) := by first | (rw [hy294]; with_reducible exact H) | (have H2_ := (Option.bind_some _ _).symm.trans H; rw [hy294]; with_reducible exact H2_) | (have H2_ := (Option.bind_some _ _).symm.trans H; with_reducible exact H2_) | with_reducible exact H | (rw [hy294]; exact H) | exact H
                            have Ny294 := Aside0.mk hy294
                            clear hy294
                            simp only [Option.some.injEq, Prod.mk.injEq] at H
                            obtain ⟨rfl, rfl, rfl⟩ := H
                            go_wp2_with (first | (go_at_call 76; (with_reducible refine (spec_l1Chance.calls g s0_0 x1001_56 x1002_56 10 true t291 t292 w0 _ ?side1 ?side2 A92.out).mono ?_); (case side1 => repeat (first | (with_reducible first | exact HI0.out | apply IsS98.alloc | apply IsS98.drewN | apply IsS98.drew | apply IsS98.set_1 | apply IsS98.set_2) | exact HI0.out)); (case side2 => repeat (first | (with_reducible first | exact HB.out | apply below_alloc | apply pw_below_drewN | apply below_drew1 | refine below_set ?_ (IsS98.ge HI0.out)) | exact HB.out)); rintro e w99 ⟨rfl, hi, hb, hk⟩; have n0_ := Aside0.mk (Kd.R_mono (Kd.R_keep (IsS98.apart (show IsS98 w0 _ g s0_0 x1001_56 x1002_56 from by repeat (first | (with_reducible first | exact HI0.out | apply IsS98.alloc | apply IsS98.drewN | apply IsS98.drew | apply IsS98.set_1 | apply IsS98.set_2) | exact HI0.out)) (by (with_reducible repeat (first | apply Kd.R_alloc | apply Kd.R_drewN | apply Kd.R_drew)); exact HO_3.out) (by decide)) hk (fun _ h => h.2)) (fun _ h => h.1)); have n1_ := Aside0.mk (KeepBut.trans (by repeat (first | (with_reducible first | exact HK.out | apply KeepBut.set_ | apply keep_drewN | apply keep_drew | apply keep_alloc) | exact HK.out)) hk (.inl rfl)); have n2_ := Aside0.mk (hb); have n3_ := Aside0.mk (hi); clear HO_3; clear HK; clear HB; clear HI0; have HO_3 := n0_; have HK := n1_; have HB := n2_; have HI0 := n3_; clear n0_ n1_ n2_ n3_; (try clear hb); (try clear hb2); (try clear hk); (try clear hi); obtain ⟨Ao100, co100, eo100⟩ := Kd.R_slice HO_3.out; subst eo100; have p293 : 0 ≤ ((ji94) : Int) := of_decide_eq_true (by first | (with_reducible assumption) | assumption); have q293 : (ji94) < (x3_2.length : Int) := of_decide_eq_true (by first | (with_reducible assumption) | assumption); obtain ⟨ad293, e293, hx293_0, hx293_1⟩ := at_T27 (Kd.R_reads' HO_3.out).2.2 (ji94) p293 q293; cases e293; replace p293 := eq_true p293; replace q293 := eq_true q293; have p98 : 0 ≤ (0 : Int) := (by omega); have q98 : (0 : Int) < ((x3_2.length : Int) : Int) := of_decide_eq_true (by first | (with_reducible assumption) | assumption); have qi98 : (0 < x3_2.length) = True := eq_true (by omega); obtain ⟨go98, co98, eo98, gb98, gl98, cl98, HG98⟩ := Kd.R_form HO_3.out (by omega); (first | cases eo98 | (injection eo98 with ea_ en_ ec_; (first | subst ea_ | (injection ea_ with ea_; subst ea_)); subst ec_; clear en_)); have GB98 := Aside0.mk gb98; have GG98 := Aside0.mk HG98; clear gb98 gl98 HG98; (first | simp only [add_plain] at hx293_0 | skip); (first | simp only [add_plain] at hx293_1 | skip); obtain ⟨ce98, hcl98, hM98, hcc98, hfr98⟩ := Kd.R_elem HO_3.out z27 (0 : Int) p98 q98; obtain rfl := k27_openM hM98; have hx98_0 : w99.cell? ⟨go98, (0 : Int).toNat * 2, none⟩ = some (.int .i64 ((rd_T27 x3_2 0).f0)) := hcc98 0 _ rfl; have hx98_1 : w99.cell? ⟨go98, (0 : Int).toNat * 2 + 1, none⟩ = some (.string ((rd_T27 x3_2 0).f1)) := hcc98 1 _ rfl; have hf98_0 : w99.frozen? ⟨go98, (0 : Int).toNat * 2, none⟩ = false := hfr98 0; have hf98_1 : w99.frozen? ⟨go98, (0 : Int).toNat * 2 + 1, none⟩ = false := hfr98 1; clear hcl98 hcc98 hfr98 hM98; (try rw [show ((0 : Int)).toNat = 0 from rfl] at hx98_0); (try simp only [Nat.reduceMul, Nat.zero_mul, Nat.zero_add, Nat.reduceAdd] at hx98_0); (try rw [show ((0 : Int)).toNat = 0 from rfl] at hf98_0); (try simp only [Nat.reduceMul, Nat.zero_mul, Nat.zero_add, Nat.reduceAdd] at hf98_0); (try rw [show ((0 : Int)).toNat = 0 from rfl] at hx98_1); (try simp only [Nat.reduceMul, Nat.zero_mul, Nat.zero_add, Nat.reduceAdd] at hx98_1); (try rw [show ((0 : Int)).toNat = 0 from rfl] at hf98_1); (try simp only [Nat.reduceMul, Nat.zero_mul, Nat.zero_add, Nat.reduceAdd] at hf98_1); replace p98 := eq_true p98; replace q98 := eq_true q98; have HX101 := Aside0.mk (show Kd.R k27 27 w99 w.heap.size (fun _ => True) (.slice (some ⟨go98, 0, none⟩) x3_2.length co100) x3_2 from (by (with_reducible repeat (first | apply Kd.R_alloc | apply Kd.R_drewN | apply Kd.R_drew)); exact HO_3.out)); obtain ⟨ce101, hcl101, hM101, hcc101, hfr101⟩ := Kd.R_elem HX101.out z27 (0 : Int) (by omega) (by have h_ : (0 : Int) < ((x3_2.length : Int) : Int) := of_decide_eq_true (by first | (with_reducible assumption) | assumption); first | exact h_ | (have e_ := (Kd.R_reads' HO_3.out).1; omega) | simpa using h_); obtain rfl := k27_openM hM101; have HP101 := Kd.R_seg HX101.out (0 : Int) (by omega) (by have h_ : (0 : Int) < ((x3_2.length : Int) : Int) := of_decide_eq_true (by first | (with_reducible assumption) | assumption); first | exact h_ | (have e_ := (Kd.R_reads' HO_3.out).1; omega) | simpa using h_) (seg := [.string ((rd_T27 x3_2 (ji94)).f1)]) (j := 1) hcl101 hcc101 (show 2 ≤ 2 from by decide) (x' := (⟨(rd_T27 x3_2 0).f0, (rd_T27 x3_2 (ji94)).f1⟩ : S27)) (k27_mkM _ _ _ (⟨(rd_T27 x3_2 0).f0, (rd_T27 x3_2 (ji94)).f1⟩ : S27) ) (fun _ hk => hk); have hx101_1 := hcc101 1 _ rfl; (try simp only [show (k27).sz = 2 from rfl, Nat.mul_one, Nat.add_zero] at hx101_1); (try rw [show ((0 : Int)).toNat = 0 from rfl] at hx101_1); (try simp only [Nat.reduceMul, Nat.zero_mul, Nat.zero_add, Nat.reduceAdd] at hx101_1); have hf101_1 := hfr101 1; (try simp only [show (k27).sz = 2 from rfl, Nat.mul_one, Nat.add_zero] at hf101_1); (try rw [show ((0 : Int)).toNat = 0 from rfl] at hf101_1); (try simp only [Nat.reduceMul, Nat.zero_mul, Nat.zero_add, Nat.reduceAdd] at hf101_1); clear hcl101 hcc101 hfr101 hM101) | ((with_reducible refine gate_store (t := 9) (p := 86) rfl ?_); refine store_event (t := 9) (p := 86) (v := ?vo_w102) (w1 := (w99.setCell ⟨go98, 1, none⟩ (.string ((rd_T27 x3_2 (ji94)).f1)))) ?hg ?ho ?hn ?hr ?_; (case ho => rfl); (case hg => rfl); (case hn => rfl); (case hr => first | (go_simp; done) | (go_simp; rfl)); intro w102 hw; have hg : w99.grownBy w102 (some go98) := (by rw [hw]; exact HP101.2); have hp_ : Kd.R k27 27 w102 w.heap.size (fun _ => True) (.slice (some ⟨go98, 0, none⟩) x3_2.length co100) y294 := (by rw [hw, Ny294.out]; exact HP101.1); clear HP101; have n0_ := Aside0.mk (hp_); have n1_ := Aside0.mk (IsS98.grown (by first | exact HI0.out | exact IsS98.far (p := ⟨gb255, 1, none⟩) (IsS98.far (p := ⟨gb255, 0, none⟩) HI0.out NB0_255.out _) NB0_255.out _ | repeat (first | (with_reducible first | exact HI0.out | apply IsS98.alloc | apply IsS98.drewN | apply IsS98.drew | apply IsS98.set_1 | apply IsS98.set_2) | exact HI0.out)) hg (IsS98.own_ne HI0.out HO_3.out (by decide))); have n2_ := Aside0.mk ((by rw [hw]; exact below_set (HB.out) (Nat.le_trans HL.out GB98.out) : Below w0.heap.size w0 w102)); have n3_ := Aside0.mk (KeepBut.trans (by repeat (first | (with_reducible first | exact HK.out | apply KeepBut.set_ | apply keep_drewN | apply keep_drew | apply keep_alloc) | exact HK.out)) (KeepBut.of_grown hg g) (Kd.R_base2 HO_3.out)); clear HO_3; clear HI0; clear HB; clear HK; have HO_3 := n0_; have HI0 := n1_; have HB := n2_; have HK := n3_; clear n0_ n1_ n2_ n3_; clear hg hw hp_))
                            go_ret
                            exact ⟨_, by first | rfl | (simp [errW_none, errW_some] <;> rfl) | (simp only [← hji94]; first | rfl | (simp [errW_none, errW_some] <;> rfl)) | (simp [*, errW_none, errW_some] <;> rfl), by (with_reducible repeat (first | apply Kd.R_alloc | apply Kd.R_drewN | apply Kd.R_drew)); exact HO_3.out, by repeat (first | (with_reducible first | exact HI0.out | apply IsS98.alloc | apply IsS98.drewN | apply IsS98.drew | apply IsS98.set_1 | apply IsS98.set_2) | exact HI0.out), by repeat (first | (with_reducible first | exact HB.out | apply below_alloc | apply pw_below_drewN | apply below_drew1 | refine below_set ?_ (IsS98.ge HI0.out)) | exact HB.out), by repeat (first | (with_reducible first | exact HK.out | apply KeepBut.set_ | apply keep_drewN | apply keep_drew | apply keep_alloc) | exact HK.out)⟩
                          · rw [if_neg c97] at H
                            exact absurd H (by simp)
                        · rw [if_neg c96] at H
                          exact absurd H (by simp)
                      · rw [if_neg c95] at H
                        exact absurd H (by simp)
                    · replace c93 := Bool.eq_false_iff.mpr c93
                      subst c93
                      have H1 : (some (x3_2, t291, t292)) = some (r1, r2, r3) := by rw [if_neg (show ¬ (false = true) by decide)] at H; exact H
                      clear H
                      have H := H1
                      clear H1
                      simp only [Option.some.injEq, Prod.mk.injEq] at H
                      obtain ⟨rfl, rfl, rfl⟩ := H
                      go_wp2_with (first | (go_at_call 76; (with_reducible refine (spec_l1Chance.calls g s0_0 x1001_56 x1002_56 10 false t291 t292 w0 _ ?side1 ?side2 A92.out).mono ?_); (case side1 => repeat (first | (with_reducible first | exact HI0.out | apply IsS98.alloc | apply IsS98.drewN | apply IsS98.drew | apply IsS98.set_1 | apply IsS98.set_2) | exact HI0.out)); (case side2 => repeat (first | (with_reducible first | exact HB.out | apply below_alloc | apply pw_below_drewN | apply below_drew1 | refine below_set ?_ (IsS98.ge HI0.out)) | exact HB.out)); rintro e w103 ⟨rfl, hi, hb, hk⟩; have n0_ := Aside0.mk (Kd.R_mono (Kd.R_keep (IsS98.apart (show IsS98 w0 _ g s0_0 x1001_56 x1002_56 from by repeat (first | (with_reducible first | exact HI0.out | apply IsS98.alloc | apply IsS98.drewN | apply IsS98.drew | apply IsS98.set_1 | apply IsS98.set_2) | exact HI0.out)) (by (with_reducible repeat (first | apply Kd.R_alloc | apply Kd.R_drewN | apply Kd.R_drew)); exact HO_3.out) (by decide)) hk (fun _ h => h.2)) (fun _ h => h.1)); have n1_ := Aside0.mk (KeepBut.trans (by repeat (first | (with_reducible first | exact HK.out | apply KeepBut.set_ | apply keep_drewN | apply keep_drew | apply keep_alloc) | exact HK.out)) hk (.inl rfl)); have n2_ := Aside0.mk (hb); have n3_ := Aside0.mk (hi); clear HO_3; clear HK; clear HB; clear HI0; have HO_3 := n0_; have HK := n1_; have HB := n2_; have HI0 := n3_; clear n0_ n1_ n2_ n3_; (try clear hb); (try clear hb2); (try clear hk); (try clear hi)))
                      go_ret
                      exact ⟨_, by first | rfl | (simp [errW_none, errW_some] <;> rfl) | (simp [*, errW_none, errW_some] <;> rfl), by (with_reducible repeat (first | apply Kd.R_alloc | apply Kd.R_drewN | apply Kd.R_drew)); exact HO_3.out, by repeat (first | (with_reducible first | exact HI0.out | apply IsS98.alloc | apply IsS98.drewN | apply IsS98.drew | apply IsS98.set_1 | apply IsS98.set_2) | exact HI0.out), by repeat (first | (with_reducible first | exact HB.out | apply below_alloc | apply pw_below_drewN | apply below_drew1 | refine below_set ?_ (IsS98.ge HI0.out)) | exact HB.out), by repeat (first | (with_reducible first | exact HK.out | apply KeepBut.set_ | apply keep_drewN | apply keep_drew | apply keep_alloc) | exact HK.out)⟩
                  · rw [if_neg c91] at H
                    have c91b0 : decide (1 < x4_3) = false := decide_eq_false c91
                    clear c91
                    simp only [Option.some.injEq, Prod.mk.injEq] at H
                    obtain ⟨rfl, rfl, rfl⟩ := H
                    go_wp2
                    go_ret
                    exact ⟨_, by first | rfl | (simp [errW_none, errW_some] <;> rfl) | (simp [*, errW_none, errW_some] <;> rfl), by (with_reducible repeat (first | apply Kd.R_alloc | apply Kd.R_drewN | apply Kd.R_drew)); exact HO_3.out, by repeat (first | (with_reducible first | exact HI0.out | apply IsS98.alloc | apply IsS98.drewN | apply IsS98.drew | apply IsS98.set_1 | apply IsS98.set_2) | exact HI0.out), by repeat (first | (with_reducible first | exact HB.out | apply below_alloc | apply pw_below_drewN | apply below_drew1 | refine below_set ?_ (IsS98.ge HI0.out)) | exact HB.out), by repeat (first | (with_reducible first | exact HK.out | apply KeepBut.set_ | apply keep_drewN | apply keep_drew | apply keep_alloc) | exact HK.out)⟩

end Go.Proofs.Ytiiifeajcigigaa.PFnDirs
