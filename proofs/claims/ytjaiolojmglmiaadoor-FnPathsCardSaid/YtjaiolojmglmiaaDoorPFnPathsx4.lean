-- written by a program of this session (wip/src/print2.py)
import Derived.Test.YtjaiolojmglmiaaDoorPFnPathsx0
import Derived.Test.YtjaiolojmglmiaaDoorPFnPathsx3
namespace Go.Proofs.YtjaiolojmglmiaaDoor.PFnPaths
open Go.RowKit Go.Proofs.YtjaiolojmglmiaaDoorW.PrintWords Go.Proofs.YtjaiolojmglmiaaDoorW.PrintLast Go.Proofs.YtjaiolojmglmiaaDoorW.PrintMore
attribute [local go_sem] max2_int min2_int max_two min_two max_three min_three max_four min_four   -- for this text's walks alone
set_option linter.unusedVariables false
set_option linter.unusedSimpArgs false

/-! ### spec_l10DrawPath: function 23 -/
set_option maxRecDepth 20000 in
mutual
def spec_l10DrawPath.j0 : Nat → ByteArray → Int → Int → List Int → Int → Int → Option (ByteArray × Int × Int)
  | 0, _, _, _, _, _, _ => none
  | k + 1, x3, x4, x5, x1000, x1001, x1002 => spec_l10DrawPath.l0 k x3 x4 x5 0 x1000 x1001 x1002
def spec_l10DrawPath.l0 : Nat → ByteArray → Int → Int → Int → List Int → Int → Int → Option (ByteArray × Int × Int)
  | 0, _, _, _, _, _, _, _ => none
  | k + 1, x3, x4, x5, x6, x1000, x1001, x1002 => if x6 < x4 then (if x3.size + 1 ≤ 9223372036854775807 then ((spec_l10DrawName.f x1000 x1001 x1002).bind fun bt162 => (if (x3 ++ (⟨#[47]⟩ : ByteArray)).size + bt162.1.size ≤ 9223372036854775807 then (spec_l10DrawPath.l0 k ((x3 ++ (⟨#[47]⟩ : ByteArray)) ++ bt162.1) x4 x5 (wrap64 (x6 + 1)) x1000 bt162.2.1 bt162.2.2) else (none))) else (none)) else (if x5 = 1 then (some ((⟨#[47]⟩ : ByteArray), x1001, x1002)) else (if x5 = 2 then (if x3.size + 1 ≤ 9223372036854775807 then (some (x3 ++ (⟨#[47]⟩ : ByteArray), x1001, x1002)) else (none)) else (if x5 = 3 then (if 1 ≤ (x3.size : Int) then (some (x3.extract 1 x3.size, x1001, x1002)) else (none)) else (if x5 = 4 then (if x3.size + 1 ≤ 9223372036854775807 then ((spec_l10DrawOdd.f x1000 x1001 x1002).bind fun bt165 => (if (x3 ++ (⟨#[47]⟩ : ByteArray)).size + bt165.1.size ≤ 9223372036854775807 then (some ((x3 ++ (⟨#[47]⟩ : ByteArray)) ++ bt165.1, bt165.2.1, bt165.2.2)) else (none))) else (none)) else (if x5 = 5 then ((spec_l10DrawOdd.f x1000 x1001 x1002).bind fun bt168 => (if 1 + bt168.1.size ≤ 9223372036854775807 then (if ((⟨#[47]⟩ : ByteArray) ++ bt168.1).size + x3.size ≤ 9223372036854775807 then (some (((⟨#[47]⟩ : ByteArray) ++ bt168.1) ++ x3, bt168.2.1, bt168.2.2)) else (none)) else (none))) else (if x5 = 6 then (spec_l10DrawPath.l1 k x3 x1000 x1001 x1002) else (if x5 = 7 then (spec_l10DrawPath.l2 k (⟨#[]⟩ : ByteArray) x1000 x1001 x1002) else (some (x3, x1001, x1002)))))))))
def spec_l10DrawPath.l1 : Nat → ByteArray → List Int → Int → Int → Option (ByteArray × Int × Int)
  | 0, _, _, _, _ => none
  | k + 1, x3, x1000, x1001, x1002 => (spec_l1Next.f x1000 x1001 x1002 2).bind fun bt171 => (if (x3.size : Int) < (wrap64 (240 + bt171.1)) then (if x3.size + 1 ≤ 9223372036854775807 then (spec_l10DrawPath.l1 k (x3 ++ (⟨#[120]⟩ : ByteArray)) x1000 bt171.2.1 bt171.2.2) else (none)) else (some (x3, bt171.2.1, bt171.2.2)))
def spec_l10DrawPath.l2 : Nat → ByteArray → List Int → Int → Int → Option (ByteArray × Int × Int)
  | 0, _, _, _, _ => none
  | k + 1, x3, x1000, x1001, x1002 => if (x3.size : Int) < 226 then (if x3.size + 14 ≤ 9223372036854775807 then (spec_l10DrawPath.l2 k (x3 ++ (⟨#[47, 97, 98, 99, 100, 101, 102, 103, 104, 105, 106, 107, 108, 109]⟩ : ByteArray)) x1000 x1001 x1002) else (none)) else (spec_l10DrawPath.l3 k x3 x1000 x1001 x1002)
def spec_l10DrawPath.l3 : Nat → ByteArray → List Int → Int → Int → Option (ByteArray × Int × Int)
  | 0, _, _, _, _ => none
  | k + 1, x3, x1000, x1001, x1002 => (spec_l1Next.f x1000 x1001 x1002 2).bind fun bt174 => (if (x3.size : Int) < (wrap64 (240 + bt174.1)) then (if x3.size + 1 ≤ 9223372036854775807 then (spec_l10DrawPath.l3 k (x3 ++ (⟨#[47]⟩ : ByteArray)) x1000 bt174.2.1 bt174.2.2) else (none)) else (some (x3, bt174.2.1, bt174.2.2)))
end
def spec_l10DrawPath.f (k : Nat) (s0_0 : List Int) (s0_1 : Int) (s0_2 : Int) : Option (ByteArray × Int × Int) := (spec_l1Next.f s0_0 s0_1 s0_2 3).bind fun bt153 => ((spec_l1Next.f s0_0 bt153.2.1 bt153.2.2 50).bind fun bt156 => (if bt156.1 = 0 then ((spec_l1Next.f s0_0 bt156.2.1 bt156.2.2 2).bind fun bt159 => (spec_l10DrawPath.j0 k (⟨#[]⟩ : ByteArray) (wrap64 (16 + bt159.1)) bt156.1 s0_0 bt159.2.1 bt159.2.2)) else (spec_l10DrawPath.j0 k (⟨#[]⟩ : ByteArray) (wrap64 (1 + bt153.1)) bt156.1 s0_0 bt156.2.1 bt156.2.2)))
theorem spec_l10DrawPath.mono_l : ∀ k, (∀ y0 y1 y2 y3 y4 y5, LeO (spec_l10DrawPath.j0 k y0 y1 y2 y3 y4 y5) (spec_l10DrawPath.j0 (k + 1) y0 y1 y2 y3 y4 y5)) ∧ (∀ y0 y1 y2 y3 y4 y5 y6, LeO (spec_l10DrawPath.l0 k y0 y1 y2 y3 y4 y5 y6) (spec_l10DrawPath.l0 (k + 1) y0 y1 y2 y3 y4 y5 y6)) ∧ (∀ y0 y1 y2 y3, LeO (spec_l10DrawPath.l1 k y0 y1 y2 y3) (spec_l10DrawPath.l1 (k + 1) y0 y1 y2 y3)) ∧ (∀ y0 y1 y2 y3, LeO (spec_l10DrawPath.l2 k y0 y1 y2 y3) (spec_l10DrawPath.l2 (k + 1) y0 y1 y2 y3)) ∧ (∀ y0 y1 y2 y3, LeO (spec_l10DrawPath.l3 k y0 y1 y2 y3) (spec_l10DrawPath.l3 (k + 1) y0 y1 y2 y3))
  | 0 => ⟨fun _ _ _ _ _ _ r h => by simp [spec_l10DrawPath.j0] at h, fun _ _ _ _ _ _ _ r h => by simp [spec_l10DrawPath.l0] at h, fun _ _ _ _ r h => by simp [spec_l10DrawPath.l1] at h, fun _ _ _ _ r h => by simp [spec_l10DrawPath.l2] at h, fun _ _ _ _ r h => by simp [spec_l10DrawPath.l3] at h⟩
  | k + 1 => by
    obtain ⟨ih0, ih1, ih2, ih3, ih4⟩ := spec_l10DrawPath.mono_l k
    refine ⟨?_, ?_, ?_, ?_, ?_⟩
    · intro y0 y1 y2 y3 y4 y5
      unfold spec_l10DrawPath.j0
      repeat' first
      | (with_reducible exact ih0 _ _ _ _ _ _)
      | (with_reducible exact ih1 _ _ _ _ _ _ _)
      | (with_reducible exact ih2 _ _ _ _)
      | (with_reducible exact ih3 _ _ _ _)
      | (with_reducible exact ih4 _ _ _ _)
      | (with_reducible exact LeO.refl _)
      | (with_reducible exact LeO.none _)
      | (with_reducible refine LeO.ite ?_ ?_)
      | (with_reducible refine LeO.bind ?_ (fun _ => ?_))
      | exact ih0 _ _ _ _ _ _
      | exact ih1 _ _ _ _ _ _ _
      | exact ih2 _ _ _ _
      | exact ih3 _ _ _ _
      | exact ih4 _ _ _ _
      | exact LeO.none _
      | refine LeO.ite ?_ ?_
      | refine LeO.bind ?_ (fun _ => ?_)
    · intro y0 y1 y2 y3 y4 y5 y6
      unfold spec_l10DrawPath.l0
      repeat' first
      | (with_reducible exact ih0 _ _ _ _ _ _)
      | (with_reducible exact ih1 _ _ _ _ _ _ _)
      | (with_reducible exact ih2 _ _ _ _)
      | (with_reducible exact ih3 _ _ _ _)
      | (with_reducible exact ih4 _ _ _ _)
      | (with_reducible exact LeO.refl _)
      | (with_reducible exact LeO.none _)
      | (with_reducible refine LeO.ite ?_ ?_)
      | (with_reducible refine LeO.bind ?_ (fun _ => ?_))
      | exact ih0 _ _ _ _ _ _
      | exact ih1 _ _ _ _ _ _ _
      | exact ih2 _ _ _ _
      | exact ih3 _ _ _ _
      | exact ih4 _ _ _ _
      | exact LeO.none _
      | refine LeO.ite ?_ ?_
      | refine LeO.bind ?_ (fun _ => ?_)
    · intro y0 y1 y2 y3
      unfold spec_l10DrawPath.l1
      repeat' first
      | (with_reducible exact ih0 _ _ _ _ _ _)
      | (with_reducible exact ih1 _ _ _ _ _ _ _)
      | (with_reducible exact ih2 _ _ _ _)
      | (with_reducible exact ih3 _ _ _ _)
      | (with_reducible exact ih4 _ _ _ _)
      | (with_reducible exact LeO.refl _)
      | (with_reducible exact LeO.none _)
      | (with_reducible refine LeO.ite ?_ ?_)
      | (with_reducible refine LeO.bind ?_ (fun _ => ?_))
      | exact ih0 _ _ _ _ _ _
      | exact ih1 _ _ _ _ _ _ _
      | exact ih2 _ _ _ _
      | exact ih3 _ _ _ _
      | exact ih4 _ _ _ _
      | exact LeO.none _
      | refine LeO.ite ?_ ?_
      | refine LeO.bind ?_ (fun _ => ?_)
    · intro y0 y1 y2 y3
      unfold spec_l10DrawPath.l2
      repeat' first
      | (with_reducible exact ih0 _ _ _ _ _ _)
      | (with_reducible exact ih1 _ _ _ _ _ _ _)
      | (with_reducible exact ih2 _ _ _ _)
      | (with_reducible exact ih3 _ _ _ _)
      | (with_reducible exact ih4 _ _ _ _)
      | (with_reducible exact LeO.refl _)
      | (with_reducible exact LeO.none _)
      | (with_reducible refine LeO.ite ?_ ?_)
      | (with_reducible refine LeO.bind ?_ (fun _ => ?_))
      | exact ih0 _ _ _ _ _ _
      | exact ih1 _ _ _ _ _ _ _
      | exact ih2 _ _ _ _
      | exact ih3 _ _ _ _
      | exact ih4 _ _ _ _
      | exact LeO.none _
      | refine LeO.ite ?_ ?_
      | refine LeO.bind ?_ (fun _ => ?_)
    · intro y0 y1 y2 y3
      unfold spec_l10DrawPath.l3
      repeat' first
      | (with_reducible exact ih0 _ _ _ _ _ _)
      | (with_reducible exact ih1 _ _ _ _ _ _ _)
      | (with_reducible exact ih2 _ _ _ _)
      | (with_reducible exact ih3 _ _ _ _)
      | (with_reducible exact ih4 _ _ _ _)
      | (with_reducible exact LeO.refl _)
      | (with_reducible exact LeO.none _)
      | (with_reducible refine LeO.ite ?_ ?_)
      | (with_reducible refine LeO.bind ?_ (fun _ => ?_))
      | exact ih0 _ _ _ _ _ _
      | exact ih1 _ _ _ _ _ _ _
      | exact ih2 _ _ _ _
      | exact ih3 _ _ _ _
      | exact ih4 _ _ _ _
      | exact LeO.none _
      | refine LeO.ite ?_ ?_
      | refine LeO.bind ?_ (fun _ => ?_)
theorem spec_l10DrawPath.mono : ∀ a0 a1 a2 k, LeO (spec_l10DrawPath.f k a0 a1 a2) (spec_l10DrawPath.f (k + 1) a0 a1 a2) := by
  intro a0 a1 a2 k
  obtain ⟨ih0, ih1, ih2, ih3, ih4⟩ := spec_l10DrawPath.mono_l k
  unfold spec_l10DrawPath.f
  repeat' first
      | (with_reducible exact ih0 _ _ _ _ _ _)
      | (with_reducible exact ih1 _ _ _ _ _ _ _)
      | (with_reducible exact ih2 _ _ _ _)
      | (with_reducible exact ih3 _ _ _ _)
      | (with_reducible exact ih4 _ _ _ _)
      | (with_reducible exact LeO.refl _)
      | (with_reducible exact LeO.none _)
      | (with_reducible refine LeO.ite ?_ ?_)
      | (with_reducible refine LeO.bind ?_ (fun _ => ?_))
      | exact ih0 _ _ _ _ _ _
      | exact ih1 _ _ _ _ _ _ _
      | exact ih2 _ _ _ _
      | exact ih3 _ _ _ _
      | exact ih4 _ _ _ _
      | exact LeO.none _
      | refine LeO.ite ?_ ?_
      | refine LeO.bind ?_ (fun _ => ?_)
set_option maxHeartbeats 8000000 in
set_option maxRecDepth 100000 in
theorem spec_l10DrawPath.calls (k : Nat) (g : Nat) (s0_0 : List Int) (s0_1 : Int) (s0_2 : Int) (r1 : ByteArray) (r2 : Int) (r3 : Int) (w0 w : World) (hI : IsS41 w0 w g s0_0 s0_1 s0_2) (hB : Below w0.heap.size w0 w) (h : spec_l10DrawPath.f k s0_0 s0_1 s0_2 = some (r1, r2, r3)) :
    Calls Tryd.prog 23 #[.pointer (some ⟨g, 0, none⟩)] w fun e w' => e = .returned (.string r1) ∧ IsS41 w0 w' g s0_0 r2 r3 ∧ Below w0.heap.size w0 w' ∧ KeepBut w w' g none := by
  have HI0 := Aside0.mk hI
  have HK := Aside0.mk (KeepBut.refl w g none)
  have HL := Aside0.mk hB.size
  clear hI
  have HW0 := Aside0.mk hB.size
  have HB := Aside0.mk hB
  clear hB
  have H : ((spec_l1Next.f s0_0 s0_1 s0_2 3).bind fun bt153 => ((spec_l1Next.f s0_0 bt153.2.1 bt153.2.2 50).bind fun bt156 => (if bt156.1 = 0 then ((spec_l1Next.f s0_0 bt156.2.1 bt156.2.2 2).bind fun bt159 => (spec_l10DrawPath.j0 k (⟨#[]⟩ : ByteArray) (wrap64 (16 + bt159.1)) bt156.1 s0_0 bt159.2.1 bt159.2.2)) else (spec_l10DrawPath.j0 k (⟨#[]⟩ : ByteArray) (wrap64 (1 + bt153.1)) bt156.1 s0_0 bt156.2.1 bt156.2.2)))) = some (r1, r2, r3) := h
  clear h
  replace H := Option.bind_eq_some_iff.mp H
  obtain ⟨⟨t153, t154, t155⟩, A20, H⟩ := H
  replace H : ((spec_l1Next.f s0_0 t154 t155 50).bind fun bt156 => (if bt156.1 = 0 then ((spec_l1Next.f s0_0 bt156.2.1 bt156.2.2 2).bind fun bt159 => (spec_l10DrawPath.j0 k (⟨#[]⟩ : ByteArray) (wrap64 (16 + bt159.1)) bt156.1 s0_0 bt159.2.1 bt159.2.2)) else (spec_l10DrawPath.j0 k (⟨#[]⟩ : ByteArray) (wrap64 (1 + t153)) bt156.1 s0_0 bt156.2.1 bt156.2.2))) = some (r1, r2, r3) := H
  have A2 := Aside0.mk A20
  clear A20
  replace H := Option.bind_eq_some_iff.mp H
  obtain ⟨⟨t156, t157, t158⟩, A30, H⟩ := H
  replace H : (if t156 = 0 then ((spec_l1Next.f s0_0 t157 t158 2).bind fun bt159 => (spec_l10DrawPath.j0 k (⟨#[]⟩ : ByteArray) (wrap64 (16 + bt159.1)) t156 s0_0 bt159.2.1 bt159.2.2)) else (spec_l10DrawPath.j0 k (⟨#[]⟩ : ByteArray) (wrap64 (1 + t153)) t156 s0_0 t157 t158)) = some (r1, r2, r3) := H
  have A3 := Aside0.mk A30
  clear A30
  have HC4 := Aside0.mk H
  clear H
  go_enter Tryd.func23, Tryd.ntmps23
  go_upto_if 13 with (first | ((with_reducible refine gate_callee (f := 26) rfl ?_); refine goesL_ (some 8) rfl rfl Tryd.func26 (by kernel_rfl) rfl #[.pointer (some ⟨g, 0, none⟩), .int .i64 3] rfl (by (try simp only [List.map_toArray, List.map_cons, List.map_nil]); first | done | rfl | (simp only [List.length_drop, List.length_take]; rfl)) ?_; (with_reducible refine (spec_l1Next.calls g s0_0 s0_1 s0_2 3 t153 t154 t155 w0 _ ?side1 ?side2 A2.out).mono ?_); (case side1 => repeat (first | (with_reducible first | exact HI0.out | apply IsS41.alloc | apply IsS41.drewN | apply IsS41.drew | apply IsS41.set_1 | apply IsS41.set_2) | exact HI0.out)); (case side2 => repeat (first | (with_reducible first | exact HB.out | apply below_alloc | apply pw_below_drewN | apply below_drew1 | refine below_set ?_ (IsS41.ge HI0.out)) | exact HB.out)); rintro e w5 ⟨rfl, hi, hb, hk⟩; refine ⟨_, rfl, ?_⟩; have n0_ := Aside0.mk (KeepBut.trans (by repeat (first | (with_reducible first | exact HK.out | apply KeepBut.set_ | apply keep_drewN | apply keep_drew | apply keep_alloc) | exact HK.out)) hk (.inl rfl)); have n1_ := Aside0.mk (hb); have n2_ := Aside0.mk (hi); clear HK; clear HB; clear HI0; have HK := n0_; have HB := n1_; have HI0 := n2_; clear n0_ n1_ n2_; (try clear hb); (try clear hb2); (try clear hk); (try clear hi)) | ((with_reducible refine gate_callee (f := 26) rfl ?_); refine goesL_ (some 11) rfl rfl Tryd.func26 (by kernel_rfl) rfl #[.pointer (some ⟨g, 0, none⟩), .int .i64 50] rfl (by (try simp only [List.map_toArray, List.map_cons, List.map_nil]); first | done | rfl | (simp only [List.length_drop, List.length_take]; rfl)) ?_; (with_reducible refine (spec_l1Next.calls g s0_0 t154 t155 50 t156 t157 t158 w0 _ ?side1 ?side2 A3.out).mono ?_); (case side1 => repeat (first | (with_reducible first | exact HI0.out | apply IsS41.alloc | apply IsS41.drewN | apply IsS41.drew | apply IsS41.set_1 | apply IsS41.set_2) | exact HI0.out)); (case side2 => repeat (first | (with_reducible first | exact HB.out | apply below_alloc | apply pw_below_drewN | apply below_drew1 | refine below_set ?_ (IsS41.ge HI0.out)) | exact HB.out)); rintro e w6 ⟨rfl, hi, hb, hk⟩; refine ⟨_, rfl, ?_⟩; have n0_ := Aside0.mk (KeepBut.trans (by repeat (first | (with_reducible first | exact HK.out | apply KeepBut.set_ | apply keep_drewN | apply keep_drew | apply keep_alloc) | exact HK.out)) hk (.inl rfl)); have n1_ := Aside0.mk (hb); have n2_ := Aside0.mk (hi); clear HK; clear HB; clear HI0; have HK := n0_; have HB := n1_; have HI0 := n2_; clear n0_ n1_ n2_; (try clear hb); (try clear hb2); (try clear hk); (try clear hi)))
  (try simp only [Act.put, List.setIfInBounds_toArray, List.set_cons_zero, List.set_cons_succ])
  go_cut [4] (fun v4 wc => ∃ (kq : Nat) (x4_3 : Int) (x1001_3 : Int) (x1002_3 : Int), v4 = .int .i64 x4_3 ∧ Aside0 (spec_l10DrawPath.j0 kq (⟨#[]⟩ : ByteArray) x4_3 t156 s0_0 x1001_3 x1002_3 = some (r1, r2, r3)) ∧ Aside0 (kq ≤ k) ∧ Aside0 (IsS41 w0 wc g s0_0 x1001_3 x1002_3) ∧ Aside0 (KeepBut w wc g none) ∧ Aside0 (Below w0.heap.size w0 wc))
  case first =>
    have H := HC4.out
    clear HC4
    by_cases c7 : t156 = 0
    · rw [if_pos c7] at H
      have c7b0 : (t156 == 0) = true := beq_iff_eq.mpr c7
      have c7b1 : (t156 != 0) = false := bne_eq_false_iff_eq.mpr c7
      clear c7
      (first | rw [c7b0] | (simp only [i64_w, i32_w]; rw [c7b0]) | skip)
      replace H := Option.bind_eq_some_iff.mp H
      obtain ⟨⟨t159, t160, t161⟩, A80, H⟩ := H
      replace H : (spec_l10DrawPath.j0 k (⟨#[]⟩ : ByteArray) (wrap64 (16 + t159)) t156 s0_0 t160 t161) = some (r1, r2, r3) := H
      have A8 := Aside0.mk A80
      clear A80
      have H' := Aside0.mk H
      clear H
      go_wp2_with (first | ((with_reducible refine gate_callee (f := 26) rfl ?_); refine goesL_ (some 15) rfl rfl Tryd.func26 (by kernel_rfl) rfl #[.pointer (some ⟨g, 0, none⟩), .int .i64 2] rfl (by (try simp only [List.map_toArray, List.map_cons, List.map_nil]); first | done | rfl | (simp only [List.length_drop, List.length_take]; rfl)) ?_; (with_reducible refine (spec_l1Next.calls g s0_0 t157 t158 2 t159 t160 t161 w0 _ ?side1 ?side2 A8.out).mono ?_); (case side1 => repeat (first | (with_reducible first | exact HI0.out | apply IsS41.alloc | apply IsS41.drewN | apply IsS41.drew | apply IsS41.set_1 | apply IsS41.set_2) | exact HI0.out)); (case side2 => repeat (first | (with_reducible first | exact HB.out | apply below_alloc | apply pw_below_drewN | apply below_drew1 | refine below_set ?_ (IsS41.ge HI0.out)) | exact HB.out)); rintro e w9 ⟨rfl, hi, hb, hk⟩; refine ⟨_, rfl, ?_⟩; have n0_ := Aside0.mk (KeepBut.trans (by repeat (first | (with_reducible first | exact HK.out | apply KeepBut.set_ | apply keep_drewN | apply keep_drew | apply keep_alloc) | exact HK.out)) hk (.inl rfl)); have n1_ := Aside0.mk (hb); have n2_ := Aside0.mk (hi); clear HK; clear HB; clear HI0; have HK := n0_; have HB := n1_; have HI0 := n2_; clear n0_ n1_ n2_; (try clear hb); (try clear hb2); (try clear hk); (try clear hi)))
      go_meet
      case rel => exact ⟨_, (wrap64 (16 + t159)), (t160), (t161), (by first | rfl | (simp; done) | (simp [*]; done)), H', ⟨by first | omega | exact Nat.le_refl _⟩, ⟨by repeat (first | (with_reducible first | exact HI0.out | apply IsS41.alloc | apply IsS41.drewN | apply IsS41.drew | apply IsS41.set_1 | apply IsS41.set_2) | exact HI0.out)⟩, ⟨by repeat (first | (with_reducible first | exact HK.out | apply KeepBut.set_ | apply keep_drewN | apply keep_drew | apply keep_alloc) | exact HK.out)⟩, ⟨by repeat (first | (with_reducible first | exact HB.out | apply below_alloc | apply pw_below_drewN | apply below_drew1 | refine below_set ?_ (IsS41.ge HI0.out)) | exact HB.out)⟩⟩
    · rw [if_neg c7] at H
      have c7b0 : (t156 == 0) = false := beq_eq_false_iff_ne.mpr c7
      have c7b1 : (t156 != 0) = true := bne_iff_ne.mpr c7
      (first | rw [c7b0] | (simp only [i64_w, i32_w]; rw [c7b0]) | skip)
      have H' := Aside0.mk H
      clear H
      go_wp2
      go_meet
      case rel => exact ⟨_, (wrap64 (1 + t153)), (t157), (t158), (by first | rfl | (simp; done) | (simp [*]; done)), H', ⟨by first | omega | exact Nat.le_refl _⟩, ⟨by repeat (first | (with_reducible first | exact HI0.out | apply IsS41.alloc | apply IsS41.drewN | apply IsS41.drew | apply IsS41.set_1 | apply IsS41.set_2) | exact HI0.out)⟩, ⟨by repeat (first | (with_reducible first | exact HK.out | apply KeepBut.set_ | apply keep_drewN | apply keep_drew | apply keep_alloc) | exact HK.out)⟩, ⟨by repeat (first | (with_reducible first | exact HB.out | apply below_alloc | apply pw_below_drewN | apply below_drew1 | refine below_set ?_ (IsS41.ge HI0.out)) | exact HB.out)⟩⟩
  case rest =>
    clear HC4
    try clear c2
    try clear p2
    try clear p6
    try clear c7
    try clear c7b0
    try clear c7b1
    obtain ⟨kq, x4_3, x1001_3, x1002_3, rfl, HA, HJ3, HI0, HK, HB⟩ := hcut
    cases kq with
    | zero => exact absurd HA.out (by simp [spec_l10DrawPath.j0])
    | succ kj3 =>
      have H := HA.out
      clear HA
      simp only [spec_l10DrawPath.j0] at H
      have H' := Aside0.mk H
      clear H
      go_wp2
      go_loopg [3, 6] kj3 (fun kq v3 v6 w' => ∃ (x3_2 : ByteArray) (x6_2 : Int) (x1001_2 : Int) (x1002_2 : Int), v3 = .string x3_2 ∧ v6 = .int .i64 x6_2 ∧ Aside0 (spec_l10DrawPath.l0 kq x3_2 x4_3 t156 x6_2 s0_0 x1001_2 x1002_2 = some (r1, r2, r3)) ∧ Aside0 (kq ≤ kj3) ∧ Aside0 (IsS41 w0 w' g s0_0 x1001_2 x1002_2) ∧ Aside0 (KeepBut w w' g none) ∧ Aside0 (Below w0.heap.size w0 w'))
      case atStart => exact ⟨((⟨#[]⟩ : ByteArray)), (0), (x1001_3), (x1002_3), (by first | rfl | (simp; done) | (simp [*]; done)), (by first | rfl | (simp; done) | (simp [*]; done)), H', ⟨Nat.le_refl _⟩, ⟨by repeat (first | (with_reducible first | exact HI0.out | apply IsS41.alloc | apply IsS41.drewN | apply IsS41.drew | apply IsS41.set_1 | apply IsS41.set_2) | exact HI0.out)⟩, ⟨by repeat (first | (with_reducible first | exact HK.out | apply KeepBut.set_ | apply keep_drewN | apply keep_drew | apply keep_alloc) | exact HK.out)⟩, ⟨by repeat (first | (with_reducible first | exact HB.out | apply below_alloc | apply pw_below_drewN | apply below_drew1 | refine below_set ?_ (IsS41.ge HI0.out)) | exact HB.out)⟩⟩
      case round =>
        clear H'
        try clear c2
        try clear p2
        try clear p6
        try clear c7
        try clear c7b0
        try clear c7b1
        try clear p2
        try clear p6
        obtain ⟨x3_2, x6_2, x1001_2, x1002_2, rfl, rfl, HA, HK2, HI0, HK, HB⟩ := hrel
        cases gk with
        | zero => exact absurd HA.out (by simp [spec_l10DrawPath.l0])
        | succ k2 =>
          have H := HA.out
          clear HA
          simp only [spec_l10DrawPath.l0] at H
          by_cases c10 : x6_2 < x4_3
          · rw [if_pos c10] at H
            have c10b0 : decide (x6_2 < x4_3) = true := decide_eq_true c10
            clear c10
            by_cases c11 : x3_2.size + 1 ≤ 9223372036854775807
            · rw [if_pos c11] at H
              have c11b0 := eq_true c11
              have c11b1 : decide (x3_2.size + 1 ≤ 9223372036854775807) = true := decide_eq_true c11
              try have c11b2 : (9223372036854775807 < x3_2.size + 1) = False := eq_false (Nat.not_lt.2 c11)
              replace H := Option.bind_eq_some_iff.mp H
              obtain ⟨⟨t162, t163, t164⟩, A120, H⟩ := H
              replace H : (if (x3_2 ++ (⟨#[47]⟩ : ByteArray)).size + t162.size ≤ 9223372036854775807 then (spec_l10DrawPath.l0 k2 ((x3_2 ++ (⟨#[47]⟩ : ByteArray)) ++ t162) x4_3 t156 (wrap64 (x6_2 + 1)) s0_0 t163 t164) else (none)) = some (r1, r2, r3) := H
              have A12 := Aside0.mk A120
              clear A120
              by_cases c13 : (x3_2 ++ (⟨#[47]⟩ : ByteArray)).size + t162.size ≤ 9223372036854775807
              · rw [if_pos c13] at H
                have c13b0 := eq_true c13
                have c13n : x3_2.size + 1 + t162.size ≤ 9223372036854775807 := by have h_ := c13; simp only [ByteArray.size_append] at h_; exact h_
                have c13n0 := eq_true c13n
                have c13n1 : decide (x3_2.size + 1 + t162.size ≤ 9223372036854775807) = true := decide_eq_true c13n
                have c13n2 : (9223372036854775807 < x3_2.size + 1 + t162.size) = False := eq_false (Nat.not_lt.2 c13n)
                have c13b1 : decide ((x3_2 ++ (⟨#[47]⟩ : ByteArray)).size + t162.size ≤ 9223372036854775807) = true := decide_eq_true c13
                try have c13b2 : (9223372036854775807 < (x3_2 ++ (⟨#[47]⟩ : ByteArray)).size + t162.size) = False := eq_false (Nat.not_lt.2 c13)
                have H' := Aside0.mk H
                clear H
                go_wp2_with (first | ((with_reducible refine gate_callee (f := 27) rfl ?_); refine goesL_ (some 25) rfl rfl Tryd.func27 (by kernel_rfl) rfl #[.pointer (some ⟨g, 0, none⟩)] rfl (by (try simp only [List.map_toArray, List.map_cons, List.map_nil]); first | done | rfl | (simp only [List.length_drop, List.length_take]; rfl)) ?_; (with_reducible refine (spec_l10DrawName.calls g s0_0 x1001_2 x1002_2 t162 t163 t164 w0 _ ?side1 ?side2 A12.out).mono ?_); (case side1 => repeat (first | (with_reducible first | exact HI0.out | apply IsS41.alloc | apply IsS41.drewN | apply IsS41.drew | apply IsS41.set_1 | apply IsS41.set_2) | exact HI0.out)); (case side2 => repeat (first | (with_reducible first | exact HB.out | apply below_alloc | apply pw_below_drewN | apply below_drew1 | refine below_set ?_ (IsS41.ge HI0.out)) | exact HB.out)); rintro e w14 ⟨rfl, hi, hb, hk⟩; refine ⟨_, rfl, ?_⟩; have n0_ := Aside0.mk (KeepBut.trans (by repeat (first | (with_reducible first | exact HK.out | apply KeepBut.set_ | apply keep_drewN | apply keep_drew | apply keep_alloc) | exact HK.out)) hk (.inl rfl)); have n1_ := Aside0.mk (hb); have n2_ := Aside0.mk (hi); clear HK; clear HB; clear HI0; have HK := n0_; have HB := n1_; have HI0 := n2_; clear n0_ n1_ n2_; (try clear hb); (try clear hb2); (try clear hk); (try clear hi)))
                go_roundg k2
                case measure => have := HJ3.out; have := HK2.out; omega
                case rel => exact ⟨((x3_2 ++ (⟨#[47]⟩ : ByteArray)) ++ t162), (wrap64 (x6_2 + 1)), (t163), (t164), (by first | rfl | (simp; done) | (simp [*]; done)), (by first | rfl | (simp; done) | (simp [*]; done)), H', ⟨by have := HJ3.out; have := HK2.out; omega⟩, ⟨by repeat (first | (with_reducible first | exact HI0.out | apply IsS41.alloc | apply IsS41.drewN | apply IsS41.drew | apply IsS41.set_1 | apply IsS41.set_2) | exact HI0.out)⟩, ⟨by repeat (first | (with_reducible first | exact HK.out | apply KeepBut.set_ | apply keep_drewN | apply keep_drew | apply keep_alloc) | exact HK.out)⟩, ⟨by repeat (first | (with_reducible first | exact HB.out | apply below_alloc | apply pw_below_drewN | apply below_drew1 | refine below_set ?_ (IsS41.ge HI0.out)) | exact HB.out)⟩⟩
              · rw [if_neg c13] at H
                exact absurd H (by simp)
            · rw [if_neg c11] at H
              exact absurd H (by simp)
          · rw [if_neg c10] at H
            have c10b0 : decide (x6_2 < x4_3) = false := decide_eq_false c10
            clear c10
            by_cases c15 : t156 = 1
            · rw [if_pos c15] at H
              have c15b0 : (t156 == 1) = true := beq_iff_eq.mpr c15
              have c15b1 : (t156 != 1) = false := bne_eq_false_iff_eq.mpr c15
              clear c15
              simp only [Option.some.injEq, Prod.mk.injEq] at H
              obtain ⟨rfl, rfl, rfl⟩ := H
              go_wp2
              go_ret
              exact ⟨by first | rfl | (simp [errW_none, errW_some] <;> rfl) | (simp [*, errW_none, errW_some] <;> rfl), by repeat (first | (with_reducible first | exact HI0.out | apply IsS41.alloc | apply IsS41.drewN | apply IsS41.drew | apply IsS41.set_1 | apply IsS41.set_2) | exact HI0.out), by repeat (first | (with_reducible first | exact HB.out | apply below_alloc | apply pw_below_drewN | apply below_drew1 | refine below_set ?_ (IsS41.ge HI0.out)) | exact HB.out), by repeat (first | (with_reducible first | exact HK.out | apply KeepBut.set_ | apply keep_drewN | apply keep_drew | apply keep_alloc) | exact HK.out)⟩
            · rw [if_neg c15] at H
              have c15b0 : (t156 == 1) = false := beq_eq_false_iff_ne.mpr c15
              have c15b1 : (t156 != 1) = true := bne_iff_ne.mpr c15
              by_cases c16 : t156 = 2
              · rw [if_pos c16] at H
                have c16b0 : (t156 == 2) = true := beq_iff_eq.mpr c16
                have c16b1 : (t156 != 2) = false := bne_eq_false_iff_eq.mpr c16
                clear c16
                by_cases c17 : x3_2.size + 1 ≤ 9223372036854775807
                · rw [if_pos c17] at H
                  have c17b0 := eq_true c17
                  have c17b1 : decide (x3_2.size + 1 ≤ 9223372036854775807) = true := decide_eq_true c17
                  try have c17b2 : (9223372036854775807 < x3_2.size + 1) = False := eq_false (Nat.not_lt.2 c17)
                  simp only [Option.some.injEq, Prod.mk.injEq] at H
                  obtain ⟨rfl, rfl, rfl⟩ := H
                  go_wp2
                  go_ret
                  exact ⟨by first | rfl | (simp [errW_none, errW_some] <;> rfl) | (simp [*, errW_none, errW_some] <;> rfl), by repeat (first | (with_reducible first | exact HI0.out | apply IsS41.alloc | apply IsS41.drewN | apply IsS41.drew | apply IsS41.set_1 | apply IsS41.set_2) | exact HI0.out), by repeat (first | (with_reducible first | exact HB.out | apply below_alloc | apply pw_below_drewN | apply below_drew1 | refine below_set ?_ (IsS41.ge HI0.out)) | exact HB.out), by repeat (first | (with_reducible first | exact HK.out | apply KeepBut.set_ | apply keep_drewN | apply keep_drew | apply keep_alloc) | exact HK.out)⟩
                · rw [if_neg c17] at H
                  exact absurd H (by simp)
              · rw [if_neg c16] at H
                have c16b0 : (t156 == 2) = false := beq_eq_false_iff_ne.mpr c16
                have c16b1 : (t156 != 2) = true := bne_iff_ne.mpr c16
                by_cases c18 : t156 = 3
                · rw [if_pos c18] at H
                  have c18b0 : (t156 == 3) = true := beq_iff_eq.mpr c18
                  have c18b1 : (t156 != 3) = false := bne_eq_false_iff_eq.mpr c18
                  clear c18
                  by_cases c19 : 1 ≤ (x3_2.size : Int)
                  · rw [if_pos c19] at H
                    have c19b0 := eq_true c19
                    have c19b1 : decide (1 ≤ (x3_2.size : Int)) = true := decide_eq_true c19
                    clear c19
                    simp only [Option.some.injEq, Prod.mk.injEq] at H
                    obtain ⟨rfl, rfl, rfl⟩ := H
                    go_wp2
                    go_ret
                    exact ⟨by first | rfl | (simp [errW_none, errW_some] <;> rfl) | (simp [*, errW_none, errW_some] <;> rfl), by repeat (first | (with_reducible first | exact HI0.out | apply IsS41.alloc | apply IsS41.drewN | apply IsS41.drew | apply IsS41.set_1 | apply IsS41.set_2) | exact HI0.out), by repeat (first | (with_reducible first | exact HB.out | apply below_alloc | apply pw_below_drewN | apply below_drew1 | refine below_set ?_ (IsS41.ge HI0.out)) | exact HB.out), by repeat (first | (with_reducible first | exact HK.out | apply KeepBut.set_ | apply keep_drewN | apply keep_drew | apply keep_alloc) | exact HK.out)⟩
                  · rw [if_neg c19] at H
                    exact absurd H (by simp)
                · rw [if_neg c18] at H
                  have c18b0 : (t156 == 3) = false := beq_eq_false_iff_ne.mpr c18
                  have c18b1 : (t156 != 3) = true := bne_iff_ne.mpr c18
                  by_cases c20 : t156 = 4
                  · rw [if_pos c20] at H
                    have c20b0 : (t156 == 4) = true := beq_iff_eq.mpr c20
                    have c20b1 : (t156 != 4) = false := bne_eq_false_iff_eq.mpr c20
                    clear c20
                    by_cases c21 : x3_2.size + 1 ≤ 9223372036854775807
                    · rw [if_pos c21] at H
                      have c21b0 := eq_true c21
                      have c21b1 : decide (x3_2.size + 1 ≤ 9223372036854775807) = true := decide_eq_true c21
                      try have c21b2 : (9223372036854775807 < x3_2.size + 1) = False := eq_false (Nat.not_lt.2 c21)
                      replace H := Option.bind_eq_some_iff.mp H
                      obtain ⟨⟨t165, t166, t167⟩, A220, H⟩ := H
                      replace H : (if (x3_2 ++ (⟨#[47]⟩ : ByteArray)).size + t165.size ≤ 9223372036854775807 then (some ((x3_2 ++ (⟨#[47]⟩ : ByteArray)) ++ t165, t166, t167)) else (none)) = some (r1, r2, r3) := H
                      have A22 := Aside0.mk A220
                      clear A220
                      by_cases c23 : (x3_2 ++ (⟨#[47]⟩ : ByteArray)).size + t165.size ≤ 9223372036854775807
                      · rw [if_pos c23] at H
                        have c23b0 := eq_true c23
                        have c23n : x3_2.size + 1 + t165.size ≤ 9223372036854775807 := by have h_ := c23; simp only [ByteArray.size_append] at h_; exact h_
                        have c23n0 := eq_true c23n
                        have c23n1 : decide (x3_2.size + 1 + t165.size ≤ 9223372036854775807) = true := decide_eq_true c23n
                        have c23n2 : (9223372036854775807 < x3_2.size + 1 + t165.size) = False := eq_false (Nat.not_lt.2 c23n)
                        have c23b1 : decide ((x3_2 ++ (⟨#[47]⟩ : ByteArray)).size + t165.size ≤ 9223372036854775807) = true := decide_eq_true c23
                        try have c23b2 : (9223372036854775807 < (x3_2 ++ (⟨#[47]⟩ : ByteArray)).size + t165.size) = False := eq_false (Nat.not_lt.2 c23)
                        simp only [Option.some.injEq, Prod.mk.injEq] at H
                        obtain ⟨rfl, rfl, rfl⟩ := H
                        go_wp2_with (first | ((with_reducible refine gate_callee (f := 22) rfl ?_); refine goesL_ (some 43) rfl rfl Tryd.func22 (by kernel_rfl) rfl #[.pointer (some ⟨g, 0, none⟩)] rfl (by (try simp only [List.map_toArray, List.map_cons, List.map_nil]); first | done | rfl | (simp only [List.length_drop, List.length_take]; rfl)) ?_; (with_reducible refine (spec_l10DrawOdd.calls g s0_0 x1001_2 x1002_2 t165 t166 t167 w0 _ ?side1 ?side2 A22.out).mono ?_); (case side1 => repeat (first | (with_reducible first | exact HI0.out | apply IsS41.alloc | apply IsS41.drewN | apply IsS41.drew | apply IsS41.set_1 | apply IsS41.set_2) | exact HI0.out)); (case side2 => repeat (first | (with_reducible first | exact HB.out | apply below_alloc | apply pw_below_drewN | apply below_drew1 | refine below_set ?_ (IsS41.ge HI0.out)) | exact HB.out)); rintro e w24 ⟨rfl, hi, hb, hk⟩; refine ⟨_, rfl, ?_⟩; have n0_ := Aside0.mk (KeepBut.trans (by repeat (first | (with_reducible first | exact HK.out | apply KeepBut.set_ | apply keep_drewN | apply keep_drew | apply keep_alloc) | exact HK.out)) hk (.inl rfl)); have n1_ := Aside0.mk (hb); have n2_ := Aside0.mk (hi); clear HK; clear HB; clear HI0; have HK := n0_; have HB := n1_; have HI0 := n2_; clear n0_ n1_ n2_; (try clear hb); (try clear hb2); (try clear hk); (try clear hi)))
                        go_ret
                        exact ⟨by first | rfl | (simp [errW_none, errW_some] <;> rfl) | (simp [*, errW_none, errW_some] <;> rfl), by repeat (first | (with_reducible first | exact HI0.out | apply IsS41.alloc | apply IsS41.drewN | apply IsS41.drew | apply IsS41.set_1 | apply IsS41.set_2) | exact HI0.out), by repeat (first | (with_reducible first | exact HB.out | apply below_alloc | apply pw_below_drewN | apply below_drew1 | refine below_set ?_ (IsS41.ge HI0.out)) | exact HB.out), by repeat (first | (with_reducible first | exact HK.out | apply KeepBut.set_ | apply keep_drewN | apply keep_drew | apply keep_alloc) | exact HK.out)⟩
                      · rw [if_neg c23] at H
                        exact absurd H (by simp)
                    · rw [if_neg c21] at H
                      exact absurd H (by simp)
                  · rw [if_neg c20] at H
                    have c20b0 : (t156 == 4) = false := beq_eq_false_iff_ne.mpr c20
                    have c20b1 : (t156 != 4) = true := bne_iff_ne.mpr c20
                    by_cases c25 : t156 = 5
                    · rw [if_pos c25] at H
                      have c25b0 : (t156 == 5) = true := beq_iff_eq.mpr c25
                      have c25b1 : (t156 != 5) = false := bne_eq_false_iff_eq.mpr c25
                      clear c25
                      replace H := Option.bind_eq_some_iff.mp H
                      obtain ⟨⟨t168, t169, t170⟩, A260, H⟩ := H
                      replace H : (if 1 + t168.size ≤ 9223372036854775807 then (if ((⟨#[47]⟩ : ByteArray) ++ t168).size + x3_2.size ≤ 9223372036854775807 then (some (((⟨#[47]⟩ : ByteArray) ++ t168) ++ x3_2, t169, t170)) else (none)) else (none)) = some (r1, r2, r3) := H
                      have A26 := Aside0.mk A260
                      clear A260
                      by_cases c27 : 1 + t168.size ≤ 9223372036854775807
                      · rw [if_pos c27] at H
                        have c27b0 := eq_true c27
                        have c27b1 : decide (1 + t168.size ≤ 9223372036854775807) = true := decide_eq_true c27
                        try have c27b2 : (9223372036854775807 < 1 + t168.size) = False := eq_false (Nat.not_lt.2 c27)
                        by_cases c28 : ((⟨#[47]⟩ : ByteArray) ++ t168).size + x3_2.size ≤ 9223372036854775807
                        · rw [if_pos c28] at H
                          have c28b0 := eq_true c28
                          have c28n : 1 + t168.size + x3_2.size ≤ 9223372036854775807 := by have h_ := c28; simp only [ByteArray.size_append] at h_; exact h_
                          have c28n0 := eq_true c28n
                          have c28n1 : decide (1 + t168.size + x3_2.size ≤ 9223372036854775807) = true := decide_eq_true c28n
                          have c28n2 : (9223372036854775807 < 1 + t168.size + x3_2.size) = False := eq_false (Nat.not_lt.2 c28n)
                          have c28b1 : decide (((⟨#[47]⟩ : ByteArray) ++ t168).size + x3_2.size ≤ 9223372036854775807) = true := decide_eq_true c28
                          try have c28b2 : (9223372036854775807 < ((⟨#[47]⟩ : ByteArray) ++ t168).size + x3_2.size) = False := eq_false (Nat.not_lt.2 c28)
                          simp only [Option.some.injEq, Prod.mk.injEq] at H
                          obtain ⟨rfl, rfl, rfl⟩ := H
                          go_wp2_with (first | ((with_reducible refine gate_callee (f := 22) rfl ?_); refine goesL_ (some 48) rfl rfl Tryd.func22 (by kernel_rfl) rfl #[.pointer (some ⟨g, 0, none⟩)] rfl (by (try simp only [List.map_toArray, List.map_cons, List.map_nil]); first | done | rfl | (simp only [List.length_drop, List.length_take]; rfl)) ?_; (with_reducible refine (spec_l10DrawOdd.calls g s0_0 x1001_2 x1002_2 t168 t169 t170 w0 _ ?side1 ?side2 A26.out).mono ?_); (case side1 => repeat (first | (with_reducible first | exact HI0.out | apply IsS41.alloc | apply IsS41.drewN | apply IsS41.drew | apply IsS41.set_1 | apply IsS41.set_2) | exact HI0.out)); (case side2 => repeat (first | (with_reducible first | exact HB.out | apply below_alloc | apply pw_below_drewN | apply below_drew1 | refine below_set ?_ (IsS41.ge HI0.out)) | exact HB.out)); rintro e w29 ⟨rfl, hi, hb, hk⟩; refine ⟨_, rfl, ?_⟩; have n0_ := Aside0.mk (KeepBut.trans (by repeat (first | (with_reducible first | exact HK.out | apply KeepBut.set_ | apply keep_drewN | apply keep_drew | apply keep_alloc) | exact HK.out)) hk (.inl rfl)); have n1_ := Aside0.mk (hb); have n2_ := Aside0.mk (hi); clear HK; clear HB; clear HI0; have HK := n0_; have HB := n1_; have HI0 := n2_; clear n0_ n1_ n2_; (try clear hb); (try clear hb2); (try clear hk); (try clear hi)))
                          go_ret
                          exact ⟨by first | rfl | (simp [errW_none, errW_some] <;> rfl) | (simp [*, errW_none, errW_some] <;> rfl), by repeat (first | (with_reducible first | exact HI0.out | apply IsS41.alloc | apply IsS41.drewN | apply IsS41.drew | apply IsS41.set_1 | apply IsS41.set_2) | exact HI0.out), by repeat (first | (with_reducible first | exact HB.out | apply below_alloc | apply pw_below_drewN | apply below_drew1 | refine below_set ?_ (IsS41.ge HI0.out)) | exact HB.out), by repeat (first | (with_reducible first | exact HK.out | apply KeepBut.set_ | apply keep_drewN | apply keep_drew | apply keep_alloc) | exact HK.out)⟩
                        · rw [if_neg c28] at H
                          exact absurd H (by simp)
                      · rw [if_neg c27] at H
                        exact absurd H (by simp)
                    · rw [if_neg c25] at H
                      have c25b0 : (t156 == 5) = false := beq_eq_false_iff_ne.mpr c25
                      have c25b1 : (t156 != 5) = true := bne_iff_ne.mpr c25
                      by_cases c30 : t156 = 6
                      · rw [if_pos c30] at H
                        have c30b0 : (t156 == 6) = true := beq_iff_eq.mpr c30
                        have c30b1 : (t156 != 6) = false := bne_eq_false_iff_eq.mpr c30
                        clear c30
                        have H' := Aside0.mk H
                        clear H
                        go_wp2
                        go_loopg [3] k2 (fun kq v3 w' => ∃ (x3_3 : ByteArray) (x1001_3 : Int) (x1002_3 : Int), v3 = .string x3_3 ∧ Aside0 (spec_l10DrawPath.l1 kq x3_3 s0_0 x1001_3 x1002_3 = some (r1, r2, r3)) ∧ Aside0 (kq ≤ k2) ∧ Aside0 (IsS41 w0 w' g s0_0 x1001_3 x1002_3) ∧ Aside0 (KeepBut w w' g none) ∧ Aside0 (Below w0.heap.size w0 w'))
                        case atStart => exact ⟨(x3_2), (x1001_2), (x1002_2), (by first | rfl | (simp; done) | (simp [*]; done)), H', ⟨Nat.le_refl _⟩, ⟨by repeat (first | (with_reducible first | exact HI0.out | apply IsS41.alloc | apply IsS41.drewN | apply IsS41.drew | apply IsS41.set_1 | apply IsS41.set_2) | exact HI0.out)⟩, ⟨by repeat (first | (with_reducible first | exact HK.out | apply KeepBut.set_ | apply keep_drewN | apply keep_drew | apply keep_alloc) | exact HK.out)⟩, ⟨by repeat (first | (with_reducible first | exact HB.out | apply below_alloc | apply pw_below_drewN | apply below_drew1 | refine below_set ?_ (IsS41.ge HI0.out)) | exact HB.out)⟩⟩
                        case round =>
                          clear H'
                          try clear c1
                          try clear c2
                          try clear p2
                          try clear c3
                          try clear p6
                          try clear c7
                          try clear c7b0
                          try clear c7b1
                          try clear c10
                          try clear c10b0
                          try clear c11
                          try clear c11b0
                          try clear c11b1
                          try clear c11b2
                          try clear c13
                          try clear c13b0
                          try clear c13b1
                          try clear c13b2
                          try clear c15
                          try clear c15b0
                          try clear c15b1
                          try clear c16
                          try clear c16b0
                          try clear c16b1
                          try clear c17
                          try clear c17b0
                          try clear c17b1
                          try clear c17b2
                          try clear c18
                          try clear c18b0
                          try clear c18b1
                          try clear c19
                          try clear c19b0
                          try clear c19b1
                          try clear c20
                          try clear c20b0
                          try clear c20b1
                          try clear c21
                          try clear c21b0
                          try clear c21b1
                          try clear c21b2
                          try clear c22
                          try clear c23
                          try clear c23b0
                          try clear c23b1
                          try clear c23b2
                          try clear c25
                          try clear c25b0
                          try clear c25b1
                          try clear c26
                          try clear c27
                          try clear c27b0
                          try clear c27b1
                          try clear c27b2
                          try clear c28
                          try clear c28b0
                          try clear c28b1
                          try clear c28b2
                          try clear c30
                          try clear c30b0
                          try clear c30b1
                          try clear p2
                          try clear p6
                          obtain ⟨x3_3, x1001_3, x1002_3, rfl, HA, HK3, HI0, HK, HB⟩ := hrel
                          cases gk with
                          | zero => exact absurd HA.out (by simp [spec_l10DrawPath.l1])
                          | succ k3 =>
                            have H := HA.out
                            clear HA
                            simp only [spec_l10DrawPath.l1] at H
                            replace H := Option.bind_eq_some_iff.mp H
                            obtain ⟨⟨t171, t172, t173⟩, A310, H⟩ := H
                            replace H : (if (x3_3.size : Int) < (wrap64 (240 + t171)) then (if x3_3.size + 1 ≤ 9223372036854775807 then (spec_l10DrawPath.l1 k3 (x3_3 ++ (⟨#[120]⟩ : ByteArray)) s0_0 t172 t173) else (none)) else (some (x3_3, t172, t173))) = some (r1, r2, r3) := H
                            have A31 := Aside0.mk A310
                            clear A310
                            by_cases c32 : (x3_3.size : Int) < (wrap64 (240 + t171))
                            · rw [if_pos c32] at H
                              have c32b0 : decide ((x3_3.size : Int) < (wrap64 (240 + t171))) = true := decide_eq_true c32
                              clear c32
                              by_cases c33 : x3_3.size + 1 ≤ 9223372036854775807
                              · rw [if_pos c33] at H
                                have c33b0 := eq_true c33
                                have c33b1 : decide (x3_3.size + 1 ≤ 9223372036854775807) = true := decide_eq_true c33
                                try have c33b2 : (9223372036854775807 < x3_3.size + 1) = False := eq_false (Nat.not_lt.2 c33)
                                have H' := Aside0.mk H
                                clear H
                                go_wp2_with (first | ((with_reducible refine gate_callee (f := 26) rfl ?_); refine goesL_ (some 57) rfl rfl Tryd.func26 (by kernel_rfl) rfl #[.pointer (some ⟨g, 0, none⟩), .int .i64 2] rfl (by (try simp only [List.map_toArray, List.map_cons, List.map_nil]); first | done | rfl | (simp only [List.length_drop, List.length_take]; rfl)) ?_; (with_reducible refine (spec_l1Next.calls g s0_0 x1001_3 x1002_3 2 t171 t172 t173 w0 _ ?side1 ?side2 A31.out).mono ?_); (case side1 => repeat (first | (with_reducible first | exact HI0.out | apply IsS41.alloc | apply IsS41.drewN | apply IsS41.drew | apply IsS41.set_1 | apply IsS41.set_2) | exact HI0.out)); (case side2 => repeat (first | (with_reducible first | exact HB.out | apply below_alloc | apply pw_below_drewN | apply below_drew1 | refine below_set ?_ (IsS41.ge HI0.out)) | exact HB.out)); rintro e w34 ⟨rfl, hi, hb, hk⟩; refine ⟨_, rfl, ?_⟩; have n0_ := Aside0.mk (KeepBut.trans (by repeat (first | (with_reducible first | exact HK.out | apply KeepBut.set_ | apply keep_drewN | apply keep_drew | apply keep_alloc) | exact HK.out)) hk (.inl rfl)); have n1_ := Aside0.mk (hb); have n2_ := Aside0.mk (hi); clear HK; clear HB; clear HI0; have HK := n0_; have HB := n1_; have HI0 := n2_; clear n0_ n1_ n2_; (try clear hb); (try clear hb2); (try clear hk); (try clear hi)))
                                go_roundg k3
                                case measure => have := HJ3.out; have := HK2.out; have := HK3.out; omega
                                case rel => exact ⟨(x3_3 ++ (⟨#[120]⟩ : ByteArray)), (t172), (t173), (by first | rfl | (simp; done) | (simp [*]; done)), H', ⟨by have := HJ3.out; have := HK2.out; have := HK3.out; omega⟩, ⟨by repeat (first | (with_reducible first | exact HI0.out | apply IsS41.alloc | apply IsS41.drewN | apply IsS41.drew | apply IsS41.set_1 | apply IsS41.set_2) | exact HI0.out)⟩, ⟨by repeat (first | (with_reducible first | exact HK.out | apply KeepBut.set_ | apply keep_drewN | apply keep_drew | apply keep_alloc) | exact HK.out)⟩, ⟨by repeat (first | (with_reducible first | exact HB.out | apply below_alloc | apply pw_below_drewN | apply below_drew1 | refine below_set ?_ (IsS41.ge HI0.out)) | exact HB.out)⟩⟩
                              · rw [if_neg c33] at H
                                exact absurd H (by simp)
                            · rw [if_neg c32] at H
                              have c32b0 : decide ((x3_3.size : Int) < (wrap64 (240 + t171))) = false := decide_eq_false c32
                              clear c32
                              simp only [Option.some.injEq, Prod.mk.injEq] at H
                              obtain ⟨rfl, rfl, rfl⟩ := H
                              go_wp2_with (first | ((with_reducible refine gate_callee (f := 26) rfl ?_); refine goesL_ (some 57) rfl rfl Tryd.func26 (by kernel_rfl) rfl #[.pointer (some ⟨g, 0, none⟩), .int .i64 2] rfl (by (try simp only [List.map_toArray, List.map_cons, List.map_nil]); first | done | rfl | (simp only [List.length_drop, List.length_take]; rfl)) ?_; (with_reducible refine (spec_l1Next.calls g s0_0 x1001_3 x1002_3 2 t171 t172 t173 w0 _ ?side1 ?side2 A31.out).mono ?_); (case side1 => repeat (first | (with_reducible first | exact HI0.out | apply IsS41.alloc | apply IsS41.drewN | apply IsS41.drew | apply IsS41.set_1 | apply IsS41.set_2) | exact HI0.out)); (case side2 => repeat (first | (with_reducible first | exact HB.out | apply below_alloc | apply pw_below_drewN | apply below_drew1 | refine below_set ?_ (IsS41.ge HI0.out)) | exact HB.out)); rintro e w35 ⟨rfl, hi, hb, hk⟩; refine ⟨_, rfl, ?_⟩; have n0_ := Aside0.mk (KeepBut.trans (by repeat (first | (with_reducible first | exact HK.out | apply KeepBut.set_ | apply keep_drewN | apply keep_drew | apply keep_alloc) | exact HK.out)) hk (.inl rfl)); have n1_ := Aside0.mk (hb); have n2_ := Aside0.mk (hi); clear HK; clear HB; clear HI0; have HK := n0_; have HB := n1_; have HI0 := n2_; clear n0_ n1_ n2_; (try clear hb); (try clear hb2); (try clear hk); (try clear hi)))
                              go_ret
                              exact ⟨by first | rfl | (simp [errW_none, errW_some] <;> rfl) | (simp [*, errW_none, errW_some] <;> rfl), by repeat (first | (with_reducible first | exact HI0.out | apply IsS41.alloc | apply IsS41.drewN | apply IsS41.drew | apply IsS41.set_1 | apply IsS41.set_2) | exact HI0.out), by repeat (first | (with_reducible first | exact HB.out | apply below_alloc | apply pw_below_drewN | apply below_drew1 | refine below_set ?_ (IsS41.ge HI0.out)) | exact HB.out), by repeat (first | (with_reducible first | exact HK.out | apply KeepBut.set_ | apply keep_drewN | apply keep_drew | apply keep_alloc) | exact HK.out)⟩
                      · rw [if_neg c30] at H
                        have c30b0 : (t156 == 6) = false := beq_eq_false_iff_ne.mpr c30
                        have c30b1 : (t156 != 6) = true := bne_iff_ne.mpr c30
                        by_cases c36 : t156 = 7
                        · rw [if_pos c36] at H
                          have c36b0 : (t156 == 7) = true := beq_iff_eq.mpr c36
                          have c36b1 : (t156 != 7) = false := bne_eq_false_iff_eq.mpr c36
                          clear c36
                          have H' := Aside0.mk H
                          clear H
                          go_wp2
                          go_loopg [3] k2 (fun kq v3 w' => ∃ (x3_3 : ByteArray), v3 = .string x3_3 ∧ Aside0 (spec_l10DrawPath.l2 kq x3_3 s0_0 x1001_2 x1002_2 = some (r1, r2, r3)) ∧ Aside0 (kq ≤ k2) ∧ Aside0 (IsS41 w0 w' g s0_0 x1001_2 x1002_2) ∧ Aside0 (KeepBut w w' g none) ∧ Aside0 (Below w0.heap.size w0 w'))
                          case atStart => exact ⟨((⟨#[]⟩ : ByteArray)), (by first | rfl | (simp; done) | (simp [*]; done)), H', ⟨Nat.le_refl _⟩, ⟨by repeat (first | (with_reducible first | exact HI0.out | apply IsS41.alloc | apply IsS41.drewN | apply IsS41.drew | apply IsS41.set_1 | apply IsS41.set_2) | exact HI0.out)⟩, ⟨by repeat (first | (with_reducible first | exact HK.out | apply KeepBut.set_ | apply keep_drewN | apply keep_drew | apply keep_alloc) | exact HK.out)⟩, ⟨by repeat (first | (with_reducible first | exact HB.out | apply below_alloc | apply pw_below_drewN | apply below_drew1 | refine below_set ?_ (IsS41.ge HI0.out)) | exact HB.out)⟩⟩
                          case round =>
                            clear H'
                            try clear c1
                            try clear c2
                            try clear p2
                            try clear c3
                            try clear p6
                            try clear c7
                            try clear c7b0
                            try clear c7b1
                            try clear c10
                            try clear c10b0
                            try clear c11
                            try clear c11b0
                            try clear c11b1
                            try clear c11b2
                            try clear c13
                            try clear c13b0
                            try clear c13b1
                            try clear c13b2
                            try clear c15
                            try clear c15b0
                            try clear c15b1
                            try clear c16
                            try clear c16b0
                            try clear c16b1
                            try clear c17
                            try clear c17b0
                            try clear c17b1
                            try clear c17b2
                            try clear c18
                            try clear c18b0
                            try clear c18b1
                            try clear c19
                            try clear c19b0
                            try clear c19b1
                            try clear c20
                            try clear c20b0
                            try clear c20b1
                            try clear c21
                            try clear c21b0
                            try clear c21b1
                            try clear c21b2
                            try clear c22
                            try clear c23
                            try clear c23b0
                            try clear c23b1
                            try clear c23b2
                            try clear c25
                            try clear c25b0
                            try clear c25b1
                            try clear c26
                            try clear c27
                            try clear c27b0
                            try clear c27b1
                            try clear c27b2
                            try clear c28
                            try clear c28b0
                            try clear c28b1
                            try clear c28b2
                            try clear c30
                            try clear c30b0
                            try clear c30b1
                            try clear c32
                            try clear c32b0
                            try clear c33
                            try clear c33b0
                            try clear c33b1
                            try clear c33b2
                            try clear c36
                            try clear c36b0
                            try clear c36b1
                            try clear p2
                            try clear p6
                            obtain ⟨x3_3, rfl, HA, HK3, HI0, HK, HB⟩ := hrel
                            cases gk with
                            | zero => exact absurd HA.out (by simp [spec_l10DrawPath.l2])
                            | succ k3 =>
                              have H := HA.out
                              clear HA
                              simp only [spec_l10DrawPath.l2] at H
                              by_cases c37 : (x3_3.size : Int) < 226
                              · rw [if_pos c37] at H
                                have c37b0 : decide ((x3_3.size : Int) < 226) = true := decide_eq_true c37
                                have c37b1 : decide (x3_3.size < 226) = true := decide_eq_true (by omega)
                                clear c37
                                by_cases c38 : x3_3.size + 14 ≤ 9223372036854775807
                                · rw [if_pos c38] at H
                                  have c38b0 := eq_true c38
                                  have c38b1 : decide (x3_3.size + 14 ≤ 9223372036854775807) = true := decide_eq_true c38
                                  try have c38b2 : (9223372036854775807 < x3_3.size + 14) = False := eq_false (Nat.not_lt.2 c38)
                                  have H' := Aside0.mk H
                                  clear H
                                  go_wp2
                                  go_roundg k3
                                  case measure => have := HJ3.out; have := HK2.out; have := HK3.out; omega
                                  case rel => exact ⟨(x3_3 ++ (⟨#[47, 97, 98, 99, 100, 101, 102, 103, 104, 105, 106, 107, 108, 109]⟩ : ByteArray)), (by first | rfl | (simp; done) | (simp [*]; done)), H', ⟨by have := HJ3.out; have := HK2.out; have := HK3.out; omega⟩, ⟨by repeat (first | (with_reducible first | exact HI0.out | apply IsS41.alloc | apply IsS41.drewN | apply IsS41.drew | apply IsS41.set_1 | apply IsS41.set_2) | exact HI0.out)⟩, ⟨by repeat (first | (with_reducible first | exact HK.out | apply KeepBut.set_ | apply keep_drewN | apply keep_drew | apply keep_alloc) | exact HK.out)⟩, ⟨by repeat (first | (with_reducible first | exact HB.out | apply below_alloc | apply pw_below_drewN | apply below_drew1 | refine below_set ?_ (IsS41.ge HI0.out)) | exact HB.out)⟩⟩
                                · rw [if_neg c38] at H
                                  exact absurd H (by simp)
                              · rw [if_neg c37] at H
                                have c37b0 : decide ((x3_3.size : Int) < 226) = false := decide_eq_false c37
                                have c37b1 : decide (x3_3.size < 226) = false := decide_eq_false (by omega)
                                clear c37
                                have H' := Aside0.mk H
                                clear H
                                go_wp2
                                go_loopg [3] k3 (fun kq v3 w' => ∃ (x3_4 : ByteArray) (x1001_4 : Int) (x1002_4 : Int), v3 = .string x3_4 ∧ Aside0 (spec_l10DrawPath.l3 kq x3_4 s0_0 x1001_4 x1002_4 = some (r1, r2, r3)) ∧ Aside0 (kq ≤ k3) ∧ Aside0 (IsS41 w0 w' g s0_0 x1001_4 x1002_4) ∧ Aside0 (KeepBut w w' g none) ∧ Aside0 (Below w0.heap.size w0 w'))
                                case atStart => exact ⟨(x3_3), (x1001_2), (x1002_2), (by first | rfl | (simp; done) | (simp [*]; done)), H', ⟨Nat.le_refl _⟩, ⟨by repeat (first | (with_reducible first | exact HI0.out | apply IsS41.alloc | apply IsS41.drewN | apply IsS41.drew | apply IsS41.set_1 | apply IsS41.set_2) | exact HI0.out)⟩, ⟨by repeat (first | (with_reducible first | exact HK.out | apply KeepBut.set_ | apply keep_drewN | apply keep_drew | apply keep_alloc) | exact HK.out)⟩, ⟨by repeat (first | (with_reducible first | exact HB.out | apply below_alloc | apply pw_below_drewN | apply below_drew1 | refine below_set ?_ (IsS41.ge HI0.out)) | exact HB.out)⟩⟩
                                case round =>
                                  clear H'
                                  try clear c1
                                  try clear c2
                                  try clear p2
                                  try clear c3
                                  try clear p6
                                  try clear c7
                                  try clear c7b0
                                  try clear c7b1
                                  try clear c10
                                  try clear c10b0
                                  try clear c11
                                  try clear c11b0
                                  try clear c11b1
                                  try clear c11b2
                                  try clear c13
                                  try clear c13b0
                                  try clear c13b1
                                  try clear c13b2
                                  try clear c15
                                  try clear c15b0
                                  try clear c15b1
                                  try clear c16
                                  try clear c16b0
                                  try clear c16b1
                                  try clear c17
                                  try clear c17b0
                                  try clear c17b1
                                  try clear c17b2
                                  try clear c18
                                  try clear c18b0
                                  try clear c18b1
                                  try clear c19
                                  try clear c19b0
                                  try clear c19b1
                                  try clear c20
                                  try clear c20b0
                                  try clear c20b1
                                  try clear c21
                                  try clear c21b0
                                  try clear c21b1
                                  try clear c21b2
                                  try clear c22
                                  try clear c23
                                  try clear c23b0
                                  try clear c23b1
                                  try clear c23b2
                                  try clear c25
                                  try clear c25b0
                                  try clear c25b1
                                  try clear c26
                                  try clear c27
                                  try clear c27b0
                                  try clear c27b1
                                  try clear c27b2
                                  try clear c28
                                  try clear c28b0
                                  try clear c28b1
                                  try clear c28b2
                                  try clear c30
                                  try clear c30b0
                                  try clear c30b1
                                  try clear c32
                                  try clear c32b0
                                  try clear c33
                                  try clear c33b0
                                  try clear c33b1
                                  try clear c33b2
                                  try clear c36
                                  try clear c36b0
                                  try clear c36b1
                                  try clear c37
                                  try clear c37b0
                                  try clear c37b1
                                  try clear c38
                                  try clear c38b0
                                  try clear c38b1
                                  try clear c38b2
                                  try clear p2
                                  try clear p6
                                  obtain ⟨x3_4, x1001_4, x1002_4, rfl, HA, HK4, HI0, HK, HB⟩ := hrel
                                  cases gk with
                                  | zero => exact absurd HA.out (by simp [spec_l10DrawPath.l3])
                                  | succ k4 =>
                                    have H := HA.out
                                    clear HA
                                    simp only [spec_l10DrawPath.l3] at H
                                    replace H := Option.bind_eq_some_iff.mp H
                                    obtain ⟨⟨t174, t175, t176⟩, A390, H⟩ := H
                                    replace H : (if (x3_4.size : Int) < (wrap64 (240 + t174)) then (if x3_4.size + 1 ≤ 9223372036854775807 then (spec_l10DrawPath.l3 k4 (x3_4 ++ (⟨#[47]⟩ : ByteArray)) s0_0 t175 t176) else (none)) else (some (x3_4, t175, t176))) = some (r1, r2, r3) := H
                                    have A39 := Aside0.mk A390
                                    clear A390
                                    by_cases c40 : (x3_4.size : Int) < (wrap64 (240 + t174))
                                    · rw [if_pos c40] at H
                                      have c40b0 : decide ((x3_4.size : Int) < (wrap64 (240 + t174))) = true := decide_eq_true c40
                                      clear c40
                                      by_cases c41 : x3_4.size + 1 ≤ 9223372036854775807
                                      · rw [if_pos c41] at H
                                        have c41b0 := eq_true c41
                                        have c41b1 : decide (x3_4.size + 1 ≤ 9223372036854775807) = true := decide_eq_true c41
                                        try have c41b2 : (9223372036854775807 < x3_4.size + 1) = False := eq_false (Nat.not_lt.2 c41)
                                        have H' := Aside0.mk H
                                        clear H
                                        go_wp2_with (first | ((with_reducible refine gate_callee (f := 26) rfl ?_); refine goesL_ (some 72) rfl rfl Tryd.func26 (by kernel_rfl) rfl #[.pointer (some ⟨g, 0, none⟩), .int .i64 2] rfl (by (try simp only [List.map_toArray, List.map_cons, List.map_nil]); first | done | rfl | (simp only [List.length_drop, List.length_take]; rfl)) ?_; (with_reducible refine (spec_l1Next.calls g s0_0 x1001_4 x1002_4 2 t174 t175 t176 w0 _ ?side1 ?side2 A39.out).mono ?_); (case side1 => repeat (first | (with_reducible first | exact HI0.out | apply IsS41.alloc | apply IsS41.drewN | apply IsS41.drew | apply IsS41.set_1 | apply IsS41.set_2) | exact HI0.out)); (case side2 => repeat (first | (with_reducible first | exact HB.out | apply below_alloc | apply pw_below_drewN | apply below_drew1 | refine below_set ?_ (IsS41.ge HI0.out)) | exact HB.out)); rintro e w42 ⟨rfl, hi, hb, hk⟩; refine ⟨_, rfl, ?_⟩; have n0_ := Aside0.mk (KeepBut.trans (by repeat (first | (with_reducible first | exact HK.out | apply KeepBut.set_ | apply keep_drewN | apply keep_drew | apply keep_alloc) | exact HK.out)) hk (.inl rfl)); have n1_ := Aside0.mk (hb); have n2_ := Aside0.mk (hi); clear HK; clear HB; clear HI0; have HK := n0_; have HB := n1_; have HI0 := n2_; clear n0_ n1_ n2_; (try clear hb); (try clear hb2); (try clear hk); (try clear hi)))
                                        go_roundg k4
                                        case measure => have := HJ3.out; have := HK2.out; have := HK3.out; have := HK4.out; omega
                                        case rel => exact ⟨(x3_4 ++ (⟨#[47]⟩ : ByteArray)), (t175), (t176), (by first | rfl | (simp; done) | (simp [*]; done)), H', ⟨by have := HJ3.out; have := HK2.out; have := HK3.out; have := HK4.out; omega⟩, ⟨by repeat (first | (with_reducible first | exact HI0.out | apply IsS41.alloc | apply IsS41.drewN | apply IsS41.drew | apply IsS41.set_1 | apply IsS41.set_2) | exact HI0.out)⟩, ⟨by repeat (first | (with_reducible first | exact HK.out | apply KeepBut.set_ | apply keep_drewN | apply keep_drew | apply keep_alloc) | exact HK.out)⟩, ⟨by repeat (first | (with_reducible first | exact HB.out | apply below_alloc | apply pw_below_drewN | apply below_drew1 | refine below_set ?_ (IsS41.ge HI0.out)) | exact HB.out)⟩⟩
                                      · rw [if_neg c41] at H
                                        exact absurd H (by simp)
                                    · rw [if_neg c40] at H
                                      have c40b0 : decide ((x3_4.size : Int) < (wrap64 (240 + t174))) = false := decide_eq_false c40
                                      clear c40
                                      simp only [Option.some.injEq, Prod.mk.injEq] at H
                                      obtain ⟨rfl, rfl, rfl⟩ := H
                                      go_wp2_with (first | ((with_reducible refine gate_callee (f := 26) rfl ?_); refine goesL_ (some 72) rfl rfl Tryd.func26 (by kernel_rfl) rfl #[.pointer (some ⟨g, 0, none⟩), .int .i64 2] rfl (by (try simp only [List.map_toArray, List.map_cons, List.map_nil]); first | done | rfl | (simp only [List.length_drop, List.length_take]; rfl)) ?_; (with_reducible refine (spec_l1Next.calls g s0_0 x1001_4 x1002_4 2 t174 t175 t176 w0 _ ?side1 ?side2 A39.out).mono ?_); (case side1 => repeat (first | (with_reducible first | exact HI0.out | apply IsS41.alloc | apply IsS41.drewN | apply IsS41.drew | apply IsS41.set_1 | apply IsS41.set_2) | exact HI0.out)); (case side2 => repeat (first | (with_reducible first | exact HB.out | apply below_alloc | apply pw_below_drewN | apply below_drew1 | refine below_set ?_ (IsS41.ge HI0.out)) | exact HB.out)); rintro e w43 ⟨rfl, hi, hb, hk⟩; refine ⟨_, rfl, ?_⟩; have n0_ := Aside0.mk (KeepBut.trans (by repeat (first | (with_reducible first | exact HK.out | apply KeepBut.set_ | apply keep_drewN | apply keep_drew | apply keep_alloc) | exact HK.out)) hk (.inl rfl)); have n1_ := Aside0.mk (hb); have n2_ := Aside0.mk (hi); clear HK; clear HB; clear HI0; have HK := n0_; have HB := n1_; have HI0 := n2_; clear n0_ n1_ n2_; (try clear hb); (try clear hb2); (try clear hk); (try clear hi)))
                                      go_ret
                                      exact ⟨by first | rfl | (simp [errW_none, errW_some] <;> rfl) | (simp [*, errW_none, errW_some] <;> rfl), by repeat (first | (with_reducible first | exact HI0.out | apply IsS41.alloc | apply IsS41.drewN | apply IsS41.drew | apply IsS41.set_1 | apply IsS41.set_2) | exact HI0.out), by repeat (first | (with_reducible first | exact HB.out | apply below_alloc | apply pw_below_drewN | apply below_drew1 | refine below_set ?_ (IsS41.ge HI0.out)) | exact HB.out), by repeat (first | (with_reducible first | exact HK.out | apply KeepBut.set_ | apply keep_drewN | apply keep_drew | apply keep_alloc) | exact HK.out)⟩
                        · rw [if_neg c36] at H
                          have c36b0 : (t156 == 7) = false := beq_eq_false_iff_ne.mpr c36
                          have c36b1 : (t156 != 7) = true := bne_iff_ne.mpr c36
                          simp only [Option.some.injEq, Prod.mk.injEq] at H
                          obtain ⟨rfl, rfl, rfl⟩ := H
                          go_wp2
                          go_ret
                          exact ⟨by first | rfl | (simp [errW_none, errW_some] <;> rfl) | (simp [*, errW_none, errW_some] <;> rfl), by repeat (first | (with_reducible first | exact HI0.out | apply IsS41.alloc | apply IsS41.drewN | apply IsS41.drew | apply IsS41.set_1 | apply IsS41.set_2) | exact HI0.out), by repeat (first | (with_reducible first | exact HB.out | apply below_alloc | apply pw_below_drewN | apply below_drew1 | refine below_set ?_ (IsS41.ge HI0.out)) | exact HB.out), by repeat (first | (with_reducible first | exact HK.out | apply KeepBut.set_ | apply keep_drewN | apply keep_drew | apply keep_alloc) | exact HK.out)⟩

/-! ### spec_DrawSplitPath: function 10 -/
def spec_DrawSplitPath.f (k : Nat) (l0 : List Int) : Option (ByteArray) := (spec_l1Source.f l0).bind fun bt177 => ((spec_l1Chance.f bt177.1 bt177.2.1 bt177.2.2 3).bind fun bt181 => (if bt181.1 = true then ((spec_l10DrawOdd.f bt177.1 (wrap64 (bt181.2.1 + 9)) bt181.2.2).bind fun bt184 => (if 1 + bt184.1.size ≤ 9223372036854775807 then ((spec_l10DrawPath.f k bt177.1 bt184.2.1 bt184.2.2).bind fun bt187 => (if ((⟨#[47]⟩ : ByteArray) ++ bt184.1).size + bt187.1.size ≤ 9223372036854775807 then (some (((⟨#[47]⟩ : ByteArray) ++ bt184.1) ++ bt187.1)) else (none))) else (none))) else ((spec_l10DrawPath.f k bt177.1 bt181.2.1 bt181.2.2).bind fun bt190 => (some bt190.1))))
theorem spec_DrawSplitPath.mono : ∀ a0 k, LeO (spec_DrawSplitPath.f k a0) (spec_DrawSplitPath.f (k + 1) a0) := by
  intro a0 k
  unfold spec_DrawSplitPath.f
  repeat' first
      | (with_reducible exact spec_l10DrawPath.mono _ _ _ _)
      | (with_reducible exact LeO.refl _)
      | (with_reducible exact LeO.none _)
      | (with_reducible refine LeO.ite ?_ ?_)
      | (with_reducible refine LeO.bind ?_ (fun _ => ?_))
      | exact spec_l10DrawPath.mono _ _ _ _
      | exact LeO.none _
      | refine LeO.ite ?_ ?_
      | refine LeO.bind ?_ (fun _ => ?_)
set_option maxHeartbeats 8000000 in
set_option maxRecDepth 100000 in
theorem spec_DrawSplitPath.calls (k : Nat) (A0 : Option Addr) (c0 : Nat) (l0 : List Int) (r : ByteArray) (w : World) (hr0 : Kd.C (Kd.int .u8) w A0 l0.length l0) (hc0 : l0.length ≤ c0) (h : spec_DrawSplitPath.f k l0 = some r) :
    Calls Tryd.prog 10 #[.slice A0 l0.length c0] w fun e w' => e = .returned (.string r) ∧ Below w.heap.size w w' := by
  have HR0 := Aside0.mk hr0
  have HC0 := Aside0.mk hc0
  clear hr0 hc0
  have HB := Aside0.mk (Below.refl w.heap.size w)
  have H : ((spec_l1Source.f l0).bind fun bt177 => ((spec_l1Chance.f bt177.1 bt177.2.1 bt177.2.2 3).bind fun bt181 => (if bt181.1 = true then ((spec_l10DrawOdd.f bt177.1 (wrap64 (bt181.2.1 + 9)) bt181.2.2).bind fun bt184 => (if 1 + bt184.1.size ≤ 9223372036854775807 then ((spec_l10DrawPath.f k bt177.1 bt184.2.1 bt184.2.2).bind fun bt187 => (if ((⟨#[47]⟩ : ByteArray) ++ bt184.1).size + bt187.1.size ≤ 9223372036854775807 then (some (((⟨#[47]⟩ : ByteArray) ++ bt184.1) ++ bt187.1)) else (none))) else (none))) else ((spec_l10DrawPath.f k bt177.1 bt181.2.1 bt181.2.2).bind fun bt190 => (some bt190.1))))) = some r := h
  clear h
  replace H := Option.bind_eq_some_iff.mp H
  obtain ⟨⟨t177, t178, t179⟩, A20, H⟩ := H
  replace H : ((spec_l1Chance.f t177 t178 t179 3).bind fun bt181 => (if bt181.1 = true then ((spec_l10DrawOdd.f t177 (wrap64 (bt181.2.1 + 9)) bt181.2.2).bind fun bt184 => (if 1 + bt184.1.size ≤ 9223372036854775807 then ((spec_l10DrawPath.f k t177 bt184.2.1 bt184.2.2).bind fun bt187 => (if ((⟨#[47]⟩ : ByteArray) ++ bt184.1).size + bt187.1.size ≤ 9223372036854775807 then (some (((⟨#[47]⟩ : ByteArray) ++ bt184.1) ++ bt187.1)) else (none))) else (none))) else ((spec_l10DrawPath.f k t177 bt181.2.1 bt181.2.2).bind fun bt190 => (some bt190.1)))) = some r := H
  have A2 := Aside0.mk A20
  clear A20
  replace H := Option.bind_eq_some_iff.mp H
  obtain ⟨⟨t181, t182, t183⟩, A30, H⟩ := H
  replace H : (if t181 = true then ((spec_l10DrawOdd.f t177 (wrap64 (t182 + 9)) t183).bind fun bt184 => (if 1 + bt184.1.size ≤ 9223372036854775807 then ((spec_l10DrawPath.f k t177 bt184.2.1 bt184.2.2).bind fun bt187 => (if ((⟨#[47]⟩ : ByteArray) ++ bt184.1).size + bt187.1.size ≤ 9223372036854775807 then (some (((⟨#[47]⟩ : ByteArray) ++ bt184.1) ++ bt187.1)) else (none))) else (none))) else ((spec_l10DrawPath.f k t177 t182 t183).bind fun bt190 => (some bt190.1))) = some r := H
  have A3 := Aside0.mk A30
  clear A30
  by_cases c4 : t181 = true
  · subst c4
    have H1 : ((spec_l10DrawOdd.f t177 (wrap64 (t182 + 9)) t183).bind fun bt184 => (if 1 + bt184.1.size ≤ 9223372036854775807 then ((spec_l10DrawPath.f k t177 bt184.2.1 bt184.2.2).bind fun bt187 => (if ((⟨#[47]⟩ : ByteArray) ++ bt184.1).size + bt187.1.size ≤ 9223372036854775807 then (some (((⟨#[47]⟩ : ByteArray) ++ bt184.1) ++ bt187.1)) else (none))) else (none))) = some r := by rw [if_pos rfl] at H; exact H
    clear H
    have H := H1
    clear H1
    replace H := Option.bind_eq_some_iff.mp H
    obtain ⟨⟨t184, t185, t186⟩, A50, H⟩ := H
    replace H : (if 1 + t184.size ≤ 9223372036854775807 then ((spec_l10DrawPath.f k t177 t185 t186).bind fun bt187 => (if ((⟨#[47]⟩ : ByteArray) ++ t184).size + bt187.1.size ≤ 9223372036854775807 then (some (((⟨#[47]⟩ : ByteArray) ++ t184) ++ bt187.1)) else (none))) else (none)) = some r := H
    have A5 := Aside0.mk A50
    clear A50
    by_cases c6 : 1 + t184.size ≤ 9223372036854775807
    · rw [if_pos c6] at H
      have c6b0 := eq_true c6
      have c6b1 : decide (1 + t184.size ≤ 9223372036854775807) = true := decide_eq_true c6
      try have c6b2 : (9223372036854775807 < 1 + t184.size) = False := eq_false (Nat.not_lt.2 c6)
      replace H := Option.bind_eq_some_iff.mp H
      obtain ⟨⟨t187, t188, t189⟩, A70, H⟩ := H
      replace H : (if ((⟨#[47]⟩ : ByteArray) ++ t184).size + t187.size ≤ 9223372036854775807 then (some (((⟨#[47]⟩ : ByteArray) ++ t184) ++ t187)) else (none)) = some r := H
      have A7 := Aside0.mk A70
      clear A70
      by_cases c8 : ((⟨#[47]⟩ : ByteArray) ++ t184).size + t187.size ≤ 9223372036854775807
      · rw [if_pos c8] at H
        have c8b0 := eq_true c8
        have c8n : 1 + t184.size + t187.size ≤ 9223372036854775807 := by have h_ := c8; simp only [ByteArray.size_append] at h_; exact h_
        have c8n0 := eq_true c8n
        have c8n1 : decide (1 + t184.size + t187.size ≤ 9223372036854775807) = true := decide_eq_true c8n
        have c8n2 : (9223372036854775807 < 1 + t184.size + t187.size) = False := eq_false (Nat.not_lt.2 c8n)
        have c8b1 : decide (((⟨#[47]⟩ : ByteArray) ++ t184).size + t187.size ≤ 9223372036854775807) = true := decide_eq_true c8
        try have c8b2 : (9223372036854775807 < ((⟨#[47]⟩ : ByteArray) ++ t184).size + t187.size) = False := eq_false (Nat.not_lt.2 c8)
        obtain rfl := Option.some.inj H
        go_enter Tryd.func10, Tryd.ntmps10
        go_wp2_with (first | ((with_reducible refine gate_callee (f := 20) rfl ?_); refine goesL_ (some 5) rfl rfl Tryd.func20 (by kernel_rfl) rfl #[.slice A0 l0.length c0] rfl (by (try simp only [List.map_toArray, List.map_cons, List.map_nil]); first | done | rfl | (simp only [List.length_drop, List.length_take]; rfl)) ?_; (with_reducible refine (spec_l1Source.calls _ _ l0 t177 t178 t179 w _ ?side1 ?side2 ?side3 A2.out).mono ?_); (case side1 => repeat (first | (with_reducible first | exact HB.out | apply below_alloc | apply pw_below_drewN | apply below_drew1) | exact HB.out)); (case side2 => exact HR0.out); (case side3 => exact HC0.out); rintro e w9 ⟨g180, rfl, hi, hb, hb2⟩; refine ⟨_, rfl, ?_⟩; have n0_ := Aside0.mk (hb); have n1_ := Aside0.mk (hi); clear HB; have HB := n0_; have HI180 := n1_; clear n0_ n1_; (try clear hb); (try clear hb2); (try clear hk); (try clear hi)) | ((with_reducible refine gate_callee (f := 21) rfl ?_); refine goesL_ (some 7) rfl rfl Tryd.func21 (by kernel_rfl) rfl #[.pointer (some ⟨g180, 0, none⟩), .int .i64 3] rfl (by (try simp only [List.map_toArray, List.map_cons, List.map_nil]); first | done | rfl | (simp only [List.length_drop, List.length_take]; rfl)) ?_; (with_reducible refine (spec_l1Chance.calls g180 t177 t178 t179 3 true t182 t183 w _ ?side1 ?side2 A3.out).mono ?_); (case side1 => repeat (first | (with_reducible first | exact HI180.out | apply IsS41.alloc | apply IsS41.drewN | apply IsS41.drew | apply IsS41.set_1 | apply IsS41.set_2) | exact HI180.out)); (case side2 => repeat (first | (with_reducible first | exact HB.out | apply below_alloc | apply pw_below_drewN | apply below_drew1 | refine below_set ?_ (IsS41.ge HI180.out)) | exact HB.out)); rintro e w10 ⟨rfl, hi, hb, hk⟩; refine ⟨_, rfl, ?_⟩; have n0_ := Aside0.mk (hb); have n1_ := Aside0.mk (hi); clear HB; clear HI180; have HB := n0_; have HI180 := n1_; clear n0_ n1_; (try clear hb); (try clear hb2); (try clear hk); (try clear hi); obtain ⟨ASz11_0, cSz11_0, HGz11, hgz11, HSz11_0⟩ := HI180.out; have hcz11_0 := cellS41_0 HGz11; have hcz11_1 := cellS41_1 HGz11; have hcz11_2 := cellS41_2 HGz11; have hfz11_1 := blk_frozen HGz11 1; have hfz11_2 := blk_frozen HGz11 2; clear HGz11 hgz11) | ((with_reducible refine gate_callee (f := 22) rfl ?_); refine goesL_ (some 17) rfl rfl Tryd.func22 (by kernel_rfl) rfl #[.pointer (some ⟨g180, 0, none⟩)] rfl (by (try simp only [List.map_toArray, List.map_cons, List.map_nil]); first | done | rfl | (simp only [List.length_drop, List.length_take]; rfl)) ?_; (with_reducible refine (spec_l10DrawOdd.calls g180 t177 (wrap64 (t182 + 9)) t183 t184 t185 t186 w _ ?side1 ?side2 A5.out).mono ?_); (case side1 => repeat (first | (with_reducible first | exact HI180.out | apply IsS41.alloc | apply IsS41.drewN | apply IsS41.drew | apply IsS41.set_1 | apply IsS41.set_2) | exact HI180.out)); (case side2 => repeat (first | (with_reducible first | exact HB.out | apply below_alloc | apply pw_below_drewN | apply below_drew1 | refine below_set ?_ (IsS41.ge HI180.out)) | exact HB.out)); rintro e w12 ⟨rfl, hi, hb, hk⟩; refine ⟨_, rfl, ?_⟩; have n0_ := Aside0.mk (hb); have n1_ := Aside0.mk (hi); clear HB; clear HI180; have HB := n0_; have HI180 := n1_; clear n0_ n1_; (try clear hb); (try clear hb2); (try clear hk); (try clear hi)) | ((with_reducible refine gate_callee (f := 23) rfl ?_); refine goesL_ (some 20) rfl rfl Tryd.func23 (by kernel_rfl) rfl #[.pointer (some ⟨g180, 0, none⟩)] rfl (by (try simp only [List.map_toArray, List.map_cons, List.map_nil]); first | done | rfl | (simp only [List.length_drop, List.length_take]; rfl)) ?_; (with_reducible refine (spec_l10DrawPath.calls k g180 t177 t185 t186 t187 t188 t189 w _ ?side1 ?side2 A7.out).mono ?_); (case side1 => repeat (first | (with_reducible first | exact HI180.out | apply IsS41.alloc | apply IsS41.drewN | apply IsS41.drew | apply IsS41.set_1 | apply IsS41.set_2) | exact HI180.out)); (case side2 => repeat (first | (with_reducible first | exact HB.out | apply below_alloc | apply pw_below_drewN | apply below_drew1 | refine below_set ?_ (IsS41.ge HI180.out)) | exact HB.out)); rintro e w13 ⟨rfl, hi, hb, hk⟩; refine ⟨_, rfl, ?_⟩; have n0_ := Aside0.mk (hb); have n1_ := Aside0.mk (hi); clear HB; clear HI180; have HB := n0_; have HI180 := n1_; clear n0_ n1_; (try clear hb); (try clear hb2); (try clear hk); (try clear hi)))
        go_ret
        exact ⟨by first | rfl | (simp [errW_none, errW_some] <;> rfl) | (simp [*, errW_none, errW_some] <;> rfl), by repeat (first | (with_reducible first | exact HB.out | apply below_alloc | apply pw_below_drewN | apply below_drew1 | refine below_set ?_ (IsS41.ge HI180.out)) | exact HB.out)⟩
      · rw [if_neg c8] at H
        exact absurd H (by simp)
    · rw [if_neg c6] at H
      exact absurd H (by simp)
  · replace c4 := Bool.eq_false_iff.mpr c4
    subst c4
    have H1 : ((spec_l10DrawPath.f k t177 t182 t183).bind fun bt190 => (some bt190.1)) = some r := by rw [if_neg (show ¬ (false = true) by decide)] at H; exact H
    clear H
    have H := H1
    clear H1
    replace H := Option.bind_eq_some_iff.mp H
    obtain ⟨⟨t190, t191, t192⟩, A140, H⟩ := H
    replace H : (some t190) = some r := H
    have A14 := Aside0.mk A140
    clear A140
    obtain rfl := Option.some.inj H
    go_enter Tryd.func10, Tryd.ntmps10
    go_wp2_with (first | ((with_reducible refine gate_callee (f := 20) rfl ?_); refine goesL_ (some 5) rfl rfl Tryd.func20 (by kernel_rfl) rfl #[.slice A0 l0.length c0] rfl (by (try simp only [List.map_toArray, List.map_cons, List.map_nil]); first | done | rfl | (simp only [List.length_drop, List.length_take]; rfl)) ?_; (with_reducible refine (spec_l1Source.calls _ _ l0 t177 t178 t179 w _ ?side1 ?side2 ?side3 A2.out).mono ?_); (case side1 => repeat (first | (with_reducible first | exact HB.out | apply below_alloc | apply pw_below_drewN | apply below_drew1) | exact HB.out)); (case side2 => exact HR0.out); (case side3 => exact HC0.out); rintro e w15 ⟨g180, rfl, hi, hb, hb2⟩; refine ⟨_, rfl, ?_⟩; have n0_ := Aside0.mk (hb); have n1_ := Aside0.mk (hi); clear HB; have HB := n0_; have HI180 := n1_; clear n0_ n1_; (try clear hb); (try clear hb2); (try clear hk); (try clear hi)) | ((with_reducible refine gate_callee (f := 21) rfl ?_); refine goesL_ (some 7) rfl rfl Tryd.func21 (by kernel_rfl) rfl #[.pointer (some ⟨g180, 0, none⟩), .int .i64 3] rfl (by (try simp only [List.map_toArray, List.map_cons, List.map_nil]); first | done | rfl | (simp only [List.length_drop, List.length_take]; rfl)) ?_; (with_reducible refine (spec_l1Chance.calls g180 t177 t178 t179 3 false t182 t183 w _ ?side1 ?side2 A3.out).mono ?_); (case side1 => repeat (first | (with_reducible first | exact HI180.out | apply IsS41.alloc | apply IsS41.drewN | apply IsS41.drew | apply IsS41.set_1 | apply IsS41.set_2) | exact HI180.out)); (case side2 => repeat (first | (with_reducible first | exact HB.out | apply below_alloc | apply pw_below_drewN | apply below_drew1 | refine below_set ?_ (IsS41.ge HI180.out)) | exact HB.out)); rintro e w16 ⟨rfl, hi, hb, hk⟩; refine ⟨_, rfl, ?_⟩; have n0_ := Aside0.mk (hb); have n1_ := Aside0.mk (hi); clear HB; clear HI180; have HB := n0_; have HI180 := n1_; clear n0_ n1_; (try clear hb); (try clear hb2); (try clear hk); (try clear hi)) | ((with_reducible refine gate_callee (f := 23) rfl ?_); refine goesL_ (some 23) rfl rfl Tryd.func23 (by kernel_rfl) rfl #[.pointer (some ⟨g180, 0, none⟩)] rfl (by (try simp only [List.map_toArray, List.map_cons, List.map_nil]); first | done | rfl | (simp only [List.length_drop, List.length_take]; rfl)) ?_; (with_reducible refine (spec_l10DrawPath.calls k g180 t177 t182 t183 t190 t191 t192 w _ ?side1 ?side2 A14.out).mono ?_); (case side1 => repeat (first | (with_reducible first | exact HI180.out | apply IsS41.alloc | apply IsS41.drewN | apply IsS41.drew | apply IsS41.set_1 | apply IsS41.set_2) | exact HI180.out)); (case side2 => repeat (first | (with_reducible first | exact HB.out | apply below_alloc | apply pw_below_drewN | apply below_drew1 | refine below_set ?_ (IsS41.ge HI180.out)) | exact HB.out)); rintro e w17 ⟨rfl, hi, hb, hk⟩; refine ⟨_, rfl, ?_⟩; have n0_ := Aside0.mk (hb); have n1_ := Aside0.mk (hi); clear HB; clear HI180; have HB := n0_; have HI180 := n1_; clear n0_ n1_; (try clear hb); (try clear hb2); (try clear hk); (try clear hi)))
    go_ret
    exact ⟨by first | rfl | (simp [errW_none, errW_some] <;> rfl) | (simp [*, errW_none, errW_some] <;> rfl), by repeat (first | (with_reducible first | exact HB.out | apply below_alloc | apply pw_below_drewN | apply below_drew1 | refine below_set ?_ (IsS41.ge HI180.out)) | exact HB.out)⟩

end Go.Proofs.YtjaiolojmglmiaaDoor.PFnPaths
