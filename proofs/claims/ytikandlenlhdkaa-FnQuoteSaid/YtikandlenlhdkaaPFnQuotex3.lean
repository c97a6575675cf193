-- written by a program of this session (wip/src/print2.py)
import Derived.Test.YtikandlenlhdkaaPFnQuotex0
import Derived.Test.YtikandlenlhdkaaPFnQuotex1
import Derived.Test.YtikandlenlhdkaaPFnQuotex2
namespace Go.Proofs.Ytikandlenlhdkaa.PFnQuote
open Go.RowKit Go.Proofs.YtikandlenlhdkaaW.PrintWords Go.Proofs.YtikandlenlhdkaaW.PrintLast Go.Proofs.YtikandlenlhdkaaW.PrintMore
attribute [local go_sem] max2_int min2_int max_two min_two max_three min_three max_four min_four   -- for this text's walks alone
set_option linter.unusedVariables false
set_option linter.unusedSimpArgs false

/-! ### spec_l3Turn: function 48 -/
mutual
def spec_l3Turn.j0 : Nat → List Int → Int → Int → List Int → Int → Int → Option (List Int × Int × Int)
  | 0, _, _, _, _, _, _ => none
  | k + 1, x1, x5, x6, x1000, x1001, x1002 => if x5 = 3 then ((spec_l1Chance.f x1000 x1001 x1002 2).bind fun bt210 => (spec_l3Turn.j1 k x1 x5 x6 bt210.1 x1000 bt210.2.1 bt210.2.2)) else (spec_l3Turn.j1 k x1 x5 x6 false x1000 x1001 x1002)
def spec_l3Turn.j1 : Nat → List Int → Int → Int → Bool → List Int → Int → Int → Option (List Int × Int × Int)
  | 0, _, _, _, _, _, _, _ => none
  | k + 1, x1, x5, x6, x47, x1000, x1001, x1002 => if x47 = true then (if 0 ≤ (wrap64 (x6 - 1)) then (if (wrap64 (x6 - 1)) ≤ (x1.length : Int) then (some ((x1.take ((wrap64 (x6 - 1)) : Int).toNat), x1001, x1002)) else (none)) else (none)) else (if x5 = 4 then ((spec_l1Chance.f x1000 x1001 x1002 2).bind fun bt216 => (spec_l3Turn.j2 k x1 x5 bt216.1 x1000 bt216.2.1 bt216.2.2)) else (spec_l3Turn.j2 k x1 x5 false x1000 x1001 x1002))
def spec_l3Turn.j2 : Nat → List Int → Int → Bool → List Int → Int → Int → Option (List Int × Int × Int)
  | 0, _, _, _, _, _, _ => none
  | k + 1, x1, x5, x57, x1000, x1001, x1002 => if x57 = true then (if x1.length < 140737488355328 then (some ((x1 ++ [0]), x1001, x1002)) else (none)) else (if x5 = 5 then ((spec_l1Chance.f x1000 x1001 x1002 3).bind fun bt222 => (if bt222.1 = true then ((spec_l1Fill.f k x1000 bt222.2.1 bt222.2.2).bind fun bt225 => (some (bt225.1, bt225.2.1, bt225.2.2))) else (some (x1, bt222.2.1, bt222.2.2)))) else (some (x1, x1001, x1002)))
end
def spec_l3Turn.f (k : Nat) (s0_0 : List Int) (s0_1 : Int) (s0_2 : Int) (l1 : List Int) : Option (List Int × Int × Int) := (spec_l1Next.f s0_0 s0_1 s0_2 8).bind fun bt183 => (if (l1.length : Int) = 0 then ((spec_l1Fill.f k s0_0 bt183.2.1 bt183.2.2).bind fun bt186 => (some (bt186.1, bt186.2.1, bt186.2.2))) else (if bt183.1 < 3 then ((spec_l1Next.f s0_0 bt183.2.1 bt183.2.2 (l1.length : Int)).bind fun bt191 => ((spec_l1Chance.f s0_0 bt191.2.1 bt191.2.2 2).bind fun bt194 => (if bt194.1 = true then ((spec_l1Next.f s0_0 bt194.2.1 bt194.2.2 16).bind fun bt197 => (if 0 ≤ (Int.tmod bt197.1 (l1.length : Int)) then (if (Int.tmod bt197.1 (l1.length : Int)) < (l1.length : Int) then ((spec_l1Next.f s0_0 bt197.2.1 bt197.2.2 255).bind fun bt201 => (spec_l3Turn.j0 k (l1.set ((Int.tmod bt197.1 (l1.length : Int)) : Int).toNat (Go.bits .xor .u8 (rd l1 (Int.tmod bt197.1 (l1.length : Int))) ((wrap64 (1 + bt201.1)) % 256))) bt183.1 (l1.length : Int) s0_0 bt201.2.1 bt201.2.2)) else (none)) else (none))) else (if 0 ≤ (Int.tmod bt191.1 (l1.length : Int)) then (if (Int.tmod bt191.1 (l1.length : Int)) < (l1.length : Int) then ((spec_l1Next.f s0_0 bt194.2.1 bt194.2.2 255).bind fun bt206 => (spec_l3Turn.j0 k (l1.set ((Int.tmod bt191.1 (l1.length : Int)) : Int).toNat (Go.bits .xor .u8 (rd l1 (Int.tmod bt191.1 (l1.length : Int))) ((wrap64 (1 + bt206.1)) % 256))) bt183.1 (l1.length : Int) s0_0 bt206.2.1 bt206.2.2)) else (none)) else (none))))) else (spec_l3Turn.j0 k l1 bt183.1 (l1.length : Int) s0_0 bt183.2.1 bt183.2.2)))
theorem spec_l3Turn.mono_l : ∀ k, (∀ y0 y1 y2 y3 y4 y5, LeO (spec_l3Turn.j0 k y0 y1 y2 y3 y4 y5) (spec_l3Turn.j0 (k + 1) y0 y1 y2 y3 y4 y5)) ∧ (∀ y0 y1 y2 y3 y4 y5 y6, LeO (spec_l3Turn.j1 k y0 y1 y2 y3 y4 y5 y6) (spec_l3Turn.j1 (k + 1) y0 y1 y2 y3 y4 y5 y6)) ∧ (∀ y0 y1 y2 y3 y4 y5, LeO (spec_l3Turn.j2 k y0 y1 y2 y3 y4 y5) (spec_l3Turn.j2 (k + 1) y0 y1 y2 y3 y4 y5))
  | 0 => ⟨fun _ _ _ _ _ _ r h => by simp [spec_l3Turn.j0] at h, fun _ _ _ _ _ _ _ r h => by simp [spec_l3Turn.j1] at h, fun _ _ _ _ _ _ r h => by simp [spec_l3Turn.j2] at h⟩
  | k + 1 => by
    obtain ⟨ih0, ih1, ih2⟩ := spec_l3Turn.mono_l k
    refine ⟨?_, ?_, ?_⟩
    · intro y0 y1 y2 y3 y4 y5
      unfold spec_l3Turn.j0
      repeat' first
      | (with_reducible exact ih0 _ _ _ _ _ _)
      | (with_reducible exact ih1 _ _ _ _ _ _ _)
      | (with_reducible exact ih2 _ _ _ _ _ _)
      | (with_reducible exact spec_l1Fill.mono _ _ _ _)
      | (with_reducible exact LeO.refl _)
      | (with_reducible exact LeO.none _)
      | (with_reducible refine LeO.ite ?_ ?_)
      | (with_reducible refine LeO.bind ?_ (fun _ => ?_))
      | exact ih0 _ _ _ _ _ _
      | exact ih1 _ _ _ _ _ _ _
      | exact ih2 _ _ _ _ _ _
      | exact spec_l1Fill.mono _ _ _ _
      | exact LeO.none _
      | refine LeO.ite ?_ ?_
      | refine LeO.bind ?_ (fun _ => ?_)
    · intro y0 y1 y2 y3 y4 y5 y6
      unfold spec_l3Turn.j1
      repeat' first
      | (with_reducible exact ih0 _ _ _ _ _ _)
      | (with_reducible exact ih1 _ _ _ _ _ _ _)
      | (with_reducible exact ih2 _ _ _ _ _ _)
      | (with_reducible exact spec_l1Fill.mono _ _ _ _)
      | (with_reducible exact LeO.refl _)
      | (with_reducible exact LeO.none _)
      | (with_reducible refine LeO.ite ?_ ?_)
      | (with_reducible refine LeO.bind ?_ (fun _ => ?_))
      | exact ih0 _ _ _ _ _ _
      | exact ih1 _ _ _ _ _ _ _
      | exact ih2 _ _ _ _ _ _
      | exact spec_l1Fill.mono _ _ _ _
      | exact LeO.none _
      | refine LeO.ite ?_ ?_
      | refine LeO.bind ?_ (fun _ => ?_)
    · intro y0 y1 y2 y3 y4 y5
      unfold spec_l3Turn.j2
      repeat' first
      | (with_reducible exact ih0 _ _ _ _ _ _)
      | (with_reducible exact ih1 _ _ _ _ _ _ _)
      | (with_reducible exact ih2 _ _ _ _ _ _)
      | (with_reducible exact spec_l1Fill.mono _ _ _ _)
      | (with_reducible exact LeO.refl _)
      | (with_reducible exact LeO.none _)
      | (with_reducible refine LeO.ite ?_ ?_)
      | (with_reducible refine LeO.bind ?_ (fun _ => ?_))
      | exact ih0 _ _ _ _ _ _
      | exact ih1 _ _ _ _ _ _ _
      | exact ih2 _ _ _ _ _ _
      | exact spec_l1Fill.mono _ _ _ _
      | exact LeO.none _
      | refine LeO.ite ?_ ?_
      | refine LeO.bind ?_ (fun _ => ?_)
theorem spec_l3Turn.mono : ∀ a0 a1 a2 a3 k, LeO (spec_l3Turn.f k a0 a1 a2 a3) (spec_l3Turn.f (k + 1) a0 a1 a2 a3) := by
  intro a0 a1 a2 a3 k
  obtain ⟨ih0, ih1, ih2⟩ := spec_l3Turn.mono_l k
  unfold spec_l3Turn.f
  repeat' first
      | (with_reducible exact ih0 _ _ _ _ _ _)
      | (with_reducible exact ih1 _ _ _ _ _ _ _)
      | (with_reducible exact ih2 _ _ _ _ _ _)
      | (with_reducible exact spec_l1Fill.mono _ _ _ _)
      | (with_reducible exact LeO.refl _)
      | (with_reducible exact LeO.none _)
      | (with_reducible refine LeO.ite ?_ ?_)
      | (with_reducible refine LeO.bind ?_ (fun _ => ?_))
      | exact ih0 _ _ _ _ _ _
      | exact ih1 _ _ _ _ _ _ _
      | exact ih2 _ _ _ _ _ _
      | exact spec_l1Fill.mono _ _ _ _
      | exact LeO.none _
      | refine LeO.ite ?_ ?_
      | refine LeO.bind ?_ (fun _ => ?_)
def spec_l3Turn.T9 : Bool × List (List Nat × List Nat) := (true, [([], []), ([], []), ([], []), ([1, 2], [1, 2]), ([], []), ([], []), ([], []), ([5, 6], [5, 6]), ([4, 7], [4, 7]), ([8], [8]), ([], []), ([10], [10]), ([11], [11]), ([12], [12]), ([9, 13], [9, 13]), ([0, 3, 0, 1, 2, 3, 4, 5, 6, 7, 8, 9, 10, 11, 12, 13, 14], [0, 3]), ([15, 14, 11, 0, 1, 2, 3, 4, 5, 6, 7, 8, 9, 10, 11, 12, 13, 14], [14, 15])])
def spec_l3Turn.B9 : List Nat := [0, 0, 0, 6, 0, 0, 0, 96, 240, 496, 0, 1024, 3072, 7168, 16368, 32767, 65535]
theorem spec_l3Turn.tab9 : rtab .any (opsOf Try.f48 9) = spec_l3Turn.T9 := by kernel_rfl
theorem spec_l3Turn.bits9 : waitsOk spec_l3Turn.T9.2 spec_l3Turn.B9 = true := by kernel_rfl
set_option maxHeartbeats 8000000 in
set_option maxRecDepth 100000 in
theorem spec_l3Turn.calls (k : Nat) (g : Nat) (s0_0 : List Int) (s0_1 : Int) (s0_2 : Int) (P1_ : Nat → Prop) (u9000_ : Value) (l1 : List Int) (r1 : List Int) (r2 : Int) (r3 : Int) (w0 w : World) (hI : IsS75 w0 w g s0_0 s0_1 s0_2) (hB : Below w0.heap.size w0 w) (ho1 : Kd.R (Kd.int .u8) 5 w w0.heap.size P1_ u9000_ l1) (h : spec_l3Turn.f k s0_0 s0_1 s0_2 l1 = some (r1, r2, r3)) :
    Calls Try.prog 48 #[.pointer (some ⟨g, 0, none⟩), u9000_] w fun e w' => ∃ v0_ : Value, e = .returned (v0_) ∧ Kd.R (Kd.int .u8) 5 w' w0.heap.size (fun k_ => (P1_ k_ ∨ w.heap.size ≤ k_)) v0_ r1 ∧ IsS75 w0 w' g s0_0 r2 r3 ∧ Below w0.heap.size w0 w' ∧ Kept w w' (fun k_ => (P1_ k_) ∨ k_ = g) := by
  have HO1 := Aside0.mk (show Kd.R (Kd.int .u8) 5 w w0.heap.size (fun k_ => (P1_ k_ ∨ w.heap.size ≤ k_)) u9000_ l1 from Kd.R_mono ho1 (fun k_ hk => (.inl hk)))
  have HI0 := Aside0.mk hI
  have HL := Aside0.mk hB.size
  clear hI
  have HK := Aside0.mk (Kept.refl w (fun k_ => (P1_ k_) ∨ k_ = g))
  have HW0 := Aside0.mk hB.size
  have HB := Aside0.mk hB
  clear hB
  have H : ((spec_l1Next.f s0_0 s0_1 s0_2 8).bind fun bt183 => (if (l1.length : Int) = 0 then ((spec_l1Fill.f k s0_0 bt183.2.1 bt183.2.2).bind fun bt186 => (some (bt186.1, bt186.2.1, bt186.2.2))) else (if bt183.1 < 3 then ((spec_l1Next.f s0_0 bt183.2.1 bt183.2.2 (l1.length : Int)).bind fun bt191 => ((spec_l1Chance.f s0_0 bt191.2.1 bt191.2.2 2).bind fun bt194 => (if bt194.1 = true then ((spec_l1Next.f s0_0 bt194.2.1 bt194.2.2 16).bind fun bt197 => (if 0 ≤ (Int.tmod bt197.1 (l1.length : Int)) then (if (Int.tmod bt197.1 (l1.length : Int)) < (l1.length : Int) then ((spec_l1Next.f s0_0 bt197.2.1 bt197.2.2 255).bind fun bt201 => (spec_l3Turn.j0 k (l1.set ((Int.tmod bt197.1 (l1.length : Int)) : Int).toNat (Go.bits .xor .u8 (rd l1 (Int.tmod bt197.1 (l1.length : Int))) ((wrap64 (1 + bt201.1)) % 256))) bt183.1 (l1.length : Int) s0_0 bt201.2.1 bt201.2.2)) else (none)) else (none))) else (if 0 ≤ (Int.tmod bt191.1 (l1.length : Int)) then (if (Int.tmod bt191.1 (l1.length : Int)) < (l1.length : Int) then ((spec_l1Next.f s0_0 bt194.2.1 bt194.2.2 255).bind fun bt206 => (spec_l3Turn.j0 k (l1.set ((Int.tmod bt191.1 (l1.length : Int)) : Int).toNat (Go.bits .xor .u8 (rd l1 (Int.tmod bt191.1 (l1.length : Int))) ((wrap64 (1 + bt206.1)) % 256))) bt183.1 (l1.length : Int) s0_0 bt206.2.1 bt206.2.2)) else (none)) else (none))))) else (spec_l3Turn.j0 k l1 bt183.1 (l1.length : Int) s0_0 bt183.2.1 bt183.2.2)))) = some (r1, r2, r3) := h
  clear h
  replace H := Option.bind_eq_some_iff.mp H
  obtain ⟨⟨t183, t184, t185⟩, A30, H⟩ := H
  replace H : (if (l1.length : Int) = 0 then ((spec_l1Fill.f k s0_0 t184 t185).bind fun bt186 => (some (bt186.1, bt186.2.1, bt186.2.2))) else (if t183 < 3 then ((spec_l1Next.f s0_0 t184 t185 (l1.length : Int)).bind fun bt191 => ((spec_l1Chance.f s0_0 bt191.2.1 bt191.2.2 2).bind fun bt194 => (if bt194.1 = true then ((spec_l1Next.f s0_0 bt194.2.1 bt194.2.2 16).bind fun bt197 => (if 0 ≤ (Int.tmod bt197.1 (l1.length : Int)) then (if (Int.tmod bt197.1 (l1.length : Int)) < (l1.length : Int) then ((spec_l1Next.f s0_0 bt197.2.1 bt197.2.2 255).bind fun bt201 => (spec_l3Turn.j0 k (l1.set ((Int.tmod bt197.1 (l1.length : Int)) : Int).toNat (Go.bits .xor .u8 (rd l1 (Int.tmod bt197.1 (l1.length : Int))) ((wrap64 (1 + bt201.1)) % 256))) t183 (l1.length : Int) s0_0 bt201.2.1 bt201.2.2)) else (none)) else (none))) else (if 0 ≤ (Int.tmod bt191.1 (l1.length : Int)) then (if (Int.tmod bt191.1 (l1.length : Int)) < (l1.length : Int) then ((spec_l1Next.f s0_0 bt194.2.1 bt194.2.2 255).bind fun bt206 => (spec_l3Turn.j0 k (l1.set ((Int.tmod bt191.1 (l1.length : Int)) : Int).toNat (Go.bits .xor .u8 (rd l1 (Int.tmod bt191.1 (l1.length : Int))) ((wrap64 (1 + bt206.1)) % 256))) t183 (l1.length : Int) s0_0 bt206.2.1 bt206.2.2)) else (none)) else (none))))) else (spec_l3Turn.j0 k l1 t183 (l1.length : Int) s0_0 t184 t185))) = some (r1, r2, r3) := H
  have A3 := Aside0.mk A30
  clear A30
  by_cases c4 : (l1.length : Int) = 0
  · rw [if_pos c4] at H
    have c4b0 : ((l1.length : Int) == 0) = true := beq_iff_eq.mpr c4
    have c4b1 : ((l1.length : Int) != 0) = false := bne_eq_false_iff_eq.mpr c4
    clear c4
    replace H := Option.bind_eq_some_iff.mp H
    obtain ⟨⟨t186, t189, t190⟩, A50, H⟩ := H
    replace H : (some (t186, t189, t190)) = some (r1, r2, r3) := H
    have A5 := Aside0.mk A50
    clear A50
    simp only [Option.some.injEq, Prod.mk.injEq] at H
    obtain ⟨rfl, rfl, rfl⟩ := H
    go_enter Try.func48, Try.ntmps48
    go_wp2_with (first | ((with_reducible refine gate_callee (f := 45) rfl ?_); refine goesL_ (some 9) rfl rfl Try.func45 (by kernel_rfl) rfl #[.pointer (some ⟨g, 0, none⟩), .int .i64 8] rfl (by (try simp only [List.map_toArray, List.map_cons, List.map_nil]); first | done | rfl | (simp only [List.length_drop, List.length_take]; rfl)) ?_; (with_reducible refine (spec_l1Next.calls g s0_0 s0_1 s0_2 8 t183 t184 t185 w0 _ ?side1 ?side2 A3.out).mono ?_); (case side1 => repeat (first | (with_reducible first | exact HI0.out | apply IsS75.alloc | apply IsS75.drewN | apply IsS75.drew | apply IsS75.set_1 | apply IsS75.set_2) | exact HI0.out)); (case side2 => repeat (first | (with_reducible first | exact HB.out | apply below_alloc | apply pw_below_drewN | apply below_drew1 | refine below_set ?_ (IsS75.ge HI0.out)) | exact HB.out)); rintro e w6 ⟨rfl, hi, hb, hk⟩; refine ⟨_, rfl, ?_⟩; have n0_ := Aside0.mk (Kd.R_mono (Kd.R_keep (IsS75.apart (show IsS75 w0 _ g s0_0 s0_1 s0_2 from by repeat (first | (with_reducible first | exact HI0.out | apply IsS75.alloc | apply IsS75.drewN | apply IsS75.drew | apply IsS75.set_1 | apply IsS75.set_2) | exact HI0.out)) (by (with_reducible repeat (first | apply Kd.R_alloc | apply Kd.R_drewN | apply Kd.R_drew)); exact HO1.out) (by decide)) hk (fun _ h => h.2)) (fun _ h => h.1)); have n1_ := Aside0.mk (Kept.of_keep (S := (fun k_ => (P1_ k_) ∨ k_ = g)) (by repeat (first | (with_reducible first | exact HK.out | apply Kept.alloc | apply Kept.drewN | apply Kept.drew | refine Kept.setCell ?_ (.inl (.inr rfl)) _) | exact HK.out)) hk (.inl (.inr rfl))); have n2_ := Aside0.mk (hb); have n3_ := Aside0.mk (hi); clear HO1; clear HK; clear HB; clear HI0; have HO1 := n0_; have HK := n1_; have HB := n2_; have HI0 := n3_; clear n0_ n1_ n2_ n3_; (try clear hb); (try clear hb2); (try clear hk); (try clear hi); obtain ⟨Ao7, co7, eo7⟩ := Kd.R_slice HO1.out; subst eo7) | ((with_reducible refine gate_callee (f := 54) rfl ?_); refine goesL_ (some 14) rfl rfl Try.func54 (by kernel_rfl) rfl #[.pointer (some ⟨g, 0, none⟩)] rfl (by (try simp only [List.map_toArray, List.map_cons, List.map_nil]); first | done | rfl | (simp only [List.length_drop, List.length_take]; rfl)) ?_; (with_reducible refine (spec_l1Fill.calls k g s0_0 t184 t185 t186 t189 t190 w0 _ ?side1 ?side2 A5.out).mono ?_); (case side1 => repeat (first | (with_reducible first | exact HI0.out | apply IsS75.alloc | apply IsS75.drewN | apply IsS75.drew | apply IsS75.set_1 | apply IsS75.set_2) | exact HI0.out)); (case side2 => repeat (first | (with_reducible first | exact HB.out | apply below_alloc | apply pw_below_drewN | apply below_drew1 | refine below_set ?_ (IsS75.ge HI0.out)) | exact HB.out)); rintro e w8 ⟨v187, rfl, ho0, hi, hb, hk⟩; refine ⟨_, rfl, ?_⟩; have n0_ := Aside0.mk (Kd.R_mono (Kd.R_told (Kd.R_oldK (IsS75.apart (show IsS75 w0 _ g s0_0 t184 t185 from by repeat (first | (with_reducible first | exact HI0.out | apply IsS75.alloc | apply IsS75.drewN | apply IsS75.drew | apply IsS75.set_1 | apply IsS75.set_2) | exact HI0.out)) (by (with_reducible repeat (first | apply Kd.R_alloc | apply Kd.R_drewN | apply Kd.R_drew)); exact HO1.out) (by decide)) hk) (Kd.R_base ho0)) (fun _ h_ => h_.1)); have n1_ := Aside0.mk (Kd.R_lower (Kd.R_new' (Kd.R_newM (M := fun k_ => (P1_ k_ ∨ w.heap.size ≤ k_)) ho0 (by first | exact HK.out.1 | exact (show Kept w _ (fun k_ => (P1_ k_) ∨ k_ = g) from by repeat (first | (with_reducible first | exact HK.out | apply Kept.alloc | apply Kept.drewN | apply Kept.drew | refine Kept.setCell ?_ (.inl (.inr rfl)) _) | exact HK.out)).1) (fun k_ h_ => .inr h_)) (Kd.R_lt (by (with_reducible repeat (first | apply Kd.R_alloc | apply Kd.R_drewN | apply Kd.R_drew)); exact HO1.out))) (below_size (by repeat (first | (with_reducible first | exact HB.out | apply below_alloc | apply pw_below_drewN | apply below_drew1 | refine below_set ?_ (IsS75.ge HI0.out)) | exact HB.out)))); have n2_ := Aside0.mk (Kept.of_keep (S := (fun k_ => (P1_ k_) ∨ k_ = g)) (by repeat (first | (with_reducible first | exact HK.out | apply Kept.alloc | apply Kept.drewN | apply Kept.drew | refine Kept.setCell ?_ (.inl (.inr rfl)) _) | exact HK.out)) hk (.inl (.inr rfl))); have n3_ := Aside0.mk (hb); have n4_ := Aside0.mk (hi); clear HO1; clear HK; clear HB; clear HI0; have HO1 := n0_; have HO188 := n1_; have HK := n2_; have HB := n3_; have HI0 := n4_; clear n0_ n1_ n2_ n3_ n4_; (try clear hb); (try clear hb2); (try clear hk); (try clear hi); (try clear ho0)))
    go_ret
    exact ⟨_, by first | rfl | (simp [errW_none, errW_some] <;> rfl) | (simp [*, errW_none, errW_some] <;> rfl), by (with_reducible repeat (first | apply Kd.R_alloc | apply Kd.R_drewN | apply Kd.R_drew)); exact Kd.R_mono HO188.out (fun _ hk => hk.1.1), by repeat (first | (with_reducible first | exact HI0.out | apply IsS75.alloc | apply IsS75.drewN | apply IsS75.drew | apply IsS75.set_1 | apply IsS75.set_2) | exact HI0.out), by repeat (first | (with_reducible first | exact HB.out | apply below_alloc | apply pw_below_drewN | apply below_drew1 | refine below_set ?_ (IsS75.ge HI0.out)) | exact HB.out), by repeat (first | (with_reducible first | exact HK.out | apply Kept.alloc | apply Kept.drewN | apply Kept.drew | refine Kept.setCell ?_ (.inl (.inr rfl)) _) | exact HK.out)⟩
  · rw [if_neg c4] at H
    have c4b0 : ((l1.length : Int) == 0) = false := beq_eq_false_iff_ne.mpr c4
    have c4b1 : ((l1.length : Int) != 0) = true := bne_iff_ne.mpr c4
    have c4b2 : ¬ (l1 = []) := fun h_ => c4 (by rw [h_]; rfl)
    have HC9 := Aside0.mk H
    clear H
    go_enter Try.func48, Try.ntmps48
    go_upto_if 18 with (first | ((with_reducible refine gate_callee (f := 45) rfl ?_); refine goesL_ (some 9) rfl rfl Try.func45 (by kernel_rfl) rfl #[.pointer (some ⟨g, 0, none⟩), .int .i64 8] rfl (by (try simp only [List.map_toArray, List.map_cons, List.map_nil]); first | done | rfl | (simp only [List.length_drop, List.length_take]; rfl)) ?_; (with_reducible refine (spec_l1Next.calls g s0_0 s0_1 s0_2 8 t183 t184 t185 w0 _ ?side1 ?side2 A3.out).mono ?_); (case side1 => repeat (first | (with_reducible first | exact HI0.out | apply IsS75.alloc | apply IsS75.drewN | apply IsS75.drew | apply IsS75.set_1 | apply IsS75.set_2) | exact HI0.out)); (case side2 => repeat (first | (with_reducible first | exact HB.out | apply below_alloc | apply pw_below_drewN | apply below_drew1 | refine below_set ?_ (IsS75.ge HI0.out)) | exact HB.out)); rintro e w10 ⟨rfl, hi, hb, hk⟩; refine ⟨_, rfl, ?_⟩; have n0_ := Aside0.mk (Kd.R_mono (Kd.R_keep (IsS75.apart (show IsS75 w0 _ g s0_0 s0_1 s0_2 from by repeat (first | (with_reducible first | exact HI0.out | apply IsS75.alloc | apply IsS75.drewN | apply IsS75.drew | apply IsS75.set_1 | apply IsS75.set_2) | exact HI0.out)) (by (with_reducible repeat (first | apply Kd.R_alloc | apply Kd.R_drewN | apply Kd.R_drew)); exact HO1.out) (by decide)) hk (fun _ h => h.2)) (fun _ h => h.1)); have n1_ := Aside0.mk (Kept.of_keep (S := (fun k_ => (P1_ k_) ∨ k_ = g)) (by repeat (first | (with_reducible first | exact HK.out | apply Kept.alloc | apply Kept.drewN | apply Kept.drew | refine Kept.setCell ?_ (.inl (.inr rfl)) _) | exact HK.out)) hk (.inl (.inr rfl))); have n2_ := Aside0.mk (hb); have n3_ := Aside0.mk (hi); clear HO1; clear HK; clear HB; clear HI0; have HO1 := n0_; have HK := n1_; have HB := n2_; have HI0 := n3_; clear n0_ n1_ n2_ n3_; (try clear hb); (try clear hb2); (try clear hk); (try clear hi); obtain ⟨Ao11, co11, eo11⟩ := Kd.R_slice HO1.out; subst eo11))
    (try simp only [Act.put, List.setIfInBounds_toArray, List.set_cons_zero, List.set_cons_succ])
    go_cut [] (fun wc => ∃ (kq : Nat) (x1_8 : List Int) (x1001_8 : Int) (x1002_8 : Int), Aside0 (spec_l3Turn.j0 kq x1_8 t183 (l1.length : Int) s0_0 x1001_8 x1002_8 = some (r1, r2, r3)) ∧ Aside0 (kq ≤ k) ∧ Aside0 (Kd.R (Kd.int .u8) 5 wc w0.heap.size (fun k_ => (P1_ k_ ∨ w.heap.size ≤ k_)) (.slice Ao11 l1.length co11) x1_8) ∧ Aside0 (IsS75 w0 wc g s0_0 x1001_8 x1002_8) ∧ Aside0 (Kept w wc (fun k_ => (P1_ k_) ∨ k_ = g)) ∧ Aside0 (Below w0.heap.size w0 wc))
    case first =>
      have H := HC9.out
      clear HC9
      by_cases c12 : t183 < 3
      · rw [if_pos c12] at H
        have c12b0 : decide (t183 < 3) = true := decide_eq_true c12
        clear c12
        (first | rw [c12b0] | (simp only [i64_w, i32_w]; rw [c12b0]) | skip)
        replace H := Option.bind_eq_some_iff.mp H
        obtain ⟨⟨t191, t192, t193⟩, A130, H⟩ := H
        replace H : ((spec_l1Chance.f s0_0 t192 t193 2).bind fun bt194 => (if bt194.1 = true then ((spec_l1Next.f s0_0 bt194.2.1 bt194.2.2 16).bind fun bt197 => (if 0 ≤ (Int.tmod bt197.1 (l1.length : Int)) then (if (Int.tmod bt197.1 (l1.length : Int)) < (l1.length : Int) then ((spec_l1Next.f s0_0 bt197.2.1 bt197.2.2 255).bind fun bt201 => (spec_l3Turn.j0 k (l1.set ((Int.tmod bt197.1 (l1.length : Int)) : Int).toNat (Go.bits .xor .u8 (rd l1 (Int.tmod bt197.1 (l1.length : Int))) ((wrap64 (1 + bt201.1)) % 256))) t183 (l1.length : Int) s0_0 bt201.2.1 bt201.2.2)) else (none)) else (none))) else (if 0 ≤ (Int.tmod t191 (l1.length : Int)) then (if (Int.tmod t191 (l1.length : Int)) < (l1.length : Int) then ((spec_l1Next.f s0_0 bt194.2.1 bt194.2.2 255).bind fun bt206 => (spec_l3Turn.j0 k (l1.set ((Int.tmod t191 (l1.length : Int)) : Int).toNat (Go.bits .xor .u8 (rd l1 (Int.tmod t191 (l1.length : Int))) ((wrap64 (1 + bt206.1)) % 256))) t183 (l1.length : Int) s0_0 bt206.2.1 bt206.2.2)) else (none)) else (none)))) = some (r1, r2, r3) := H
        have A13 := Aside0.mk A130
        clear A130
        replace H := Option.bind_eq_some_iff.mp H
        obtain ⟨⟨t194, t195, t196⟩, A140, H⟩ := H
        replace H : (if t194 = true then ((spec_l1Next.f s0_0 t195 t196 16).bind fun bt197 => (if 0 ≤ (Int.tmod bt197.1 (l1.length : Int)) then (if (Int.tmod bt197.1 (l1.length : Int)) < (l1.length : Int) then ((spec_l1Next.f s0_0 bt197.2.1 bt197.2.2 255).bind fun bt201 => (spec_l3Turn.j0 k (l1.set ((Int.tmod bt197.1 (l1.length : Int)) : Int).toNat (Go.bits .xor .u8 (rd l1 (Int.tmod bt197.1 (l1.length : Int))) ((wrap64 (1 + bt201.1)) % 256))) t183 (l1.length : Int) s0_0 bt201.2.1 bt201.2.2)) else (none)) else (none))) else (if 0 ≤ (Int.tmod t191 (l1.length : Int)) then (if (Int.tmod t191 (l1.length : Int)) < (l1.length : Int) then ((spec_l1Next.f s0_0 t195 t196 255).bind fun bt206 => (spec_l3Turn.j0 k (l1.set ((Int.tmod t191 (l1.length : Int)) : Int).toNat (Go.bits .xor .u8 (rd l1 (Int.tmod t191 (l1.length : Int))) ((wrap64 (1 + bt206.1)) % 256))) t183 (l1.length : Int) s0_0 bt206.2.1 bt206.2.2)) else (none)) else (none))) = some (r1, r2, r3) := H
        have A14 := Aside0.mk A140
        clear A140
        by_cases c15 : t194 = true
        · subst c15
          have H1 : ((spec_l1Next.f s0_0 t195 t196 16).bind fun bt197 => (if 0 ≤ (Int.tmod bt197.1 (l1.length : Int)) then (if (Int.tmod bt197.1 (l1.length : Int)) < (l1.length : Int) then ((spec_l1Next.f s0_0 bt197.2.1 bt197.2.2 255).bind fun bt201 => (spec_l3Turn.j0 k (l1.set ((Int.tmod bt197.1 (l1.length : Int)) : Int).toNat (Go.bits .xor .u8 (rd l1 (Int.tmod bt197.1 (l1.length : Int))) ((wrap64 (1 + bt201.1)) % 256))) t183 (l1.length : Int) s0_0 bt201.2.1 bt201.2.2)) else (none)) else (none))) = some (r1, r2, r3) := by rw [if_pos rfl] at H; exact H
          clear H
          have H := H1
          clear H1
          replace H := Option.bind_eq_some_iff.mp H
          obtain ⟨⟨t197, t198, t199⟩, A160, H⟩ := H
          replace H : (if 0 ≤ (Int.tmod t197 (l1.length : Int)) then (if (Int.tmod t197 (l1.length : Int)) < (l1.length : Int) then ((spec_l1Next.f s0_0 t198 t199 255).bind fun bt201 => (spec_l3Turn.j0 k (l1.set ((Int.tmod t197 (l1.length : Int)) : Int).toNat (Go.bits .xor .u8 (rd l1 (Int.tmod t197 (l1.length : Int))) ((wrap64 (1 + bt201.1)) % 256))) t183 (l1.length : Int) s0_0 bt201.2.1 bt201.2.2)) else (none)) else (none)) = some (r1, r2, r3) := H
          have A16 := Aside0.mk A160
          clear A160
          obtain ⟨ji17, hji17⟩ : ∃ j_ : Int, (Int.tmod t197 (l1.length : Int)) = j_ := ⟨_, rfl⟩
          replace H : (if 0 ≤ (ji17) then (if (ji17) < (l1.length : Int) then ((spec_l1Next.f s0_0 t198 t199 255).bind fun bt201 => (spec_l3Turn.j0 k (l1.set ((ji17) : Int).toNat (Go.bits .xor .u8 (rd l1 (ji17)) ((wrap64 (1 + bt201.1)) % 256))) t183 (l1.length : Int) s0_0 bt201.2.1 bt201.2.2)) else (none)) else (none)) = some (r1, r2, r3) := by first | (rw [hji17] at H; exact H) | (simp only [hji17] at H ⊢; exact H)
          (try rw [hji17] at A13)
          (try rw [hji17] at A14)
          (try rw [hji17] at A16)
          by_cases c18 : 0 ≤ (ji17)
          · rw [if_pos c18] at H
            have c18b0 : decide (0 ≤ (ji17)) = true := decide_eq_true c18
            clear c18
            by_cases c19 : (ji17) < (l1.length : Int)
            · rw [if_pos c19] at H
              have c19b0 : decide ((ji17) < (l1.length : Int)) = true := decide_eq_true c19
              clear c19
              replace H := Option.bind_eq_some_iff.mp H
              obtain ⟨⟨t201, t202, t203⟩, A200, H⟩ := H
              replace H : (spec_l3Turn.j0 k (l1.set ((ji17) : Int).toNat (Go.bits .xor .u8 (rd l1 (ji17)) ((wrap64 (1 + t201)) % 256))) t183 (l1.length : Int) s0_0 t202 t203) = some (r1, r2, r3) := H
              have A20 := Aside0.mk A200
              clear A200
              obtain ⟨y204, hy204⟩ : ∃ y_ : List Int, y_ = (l1.set ((ji17) : Int).toNat (Go.bits .xor .u8 (rd l1 (ji17)) ((wrap64 (1 + t201)) % 256))) := ⟨_, rfl⟩
              replace H : (spec_l3Turn.j0 k y204 t183 (l1.length : Int) s0_0 t202 t203) = some (r1, r2, r3) := by first | (rw [hy204]; with_reducible exact H) | (have H2_ := (Option.bind_some _ _).symm.trans H; rw [hy204]; with_reducible exact H2_) | (have H2_ := (Option.bind_some _ _).symm.trans H; with_reducible exact H2_) | with_reducible exact H | (rw [hy204]; exact H) | exact H
              have Ny204 := Aside0.mk hy204
              clear hy204
              have H' := Aside0.mk H
              clear H
              try go_wp2_with (first | ((with_reducible refine gate_callee (f := 45) rfl ?_); refine goesL_ (some 21) rfl rfl Try.func45 (by kernel_rfl) rfl #[.pointer (some ⟨g, 0, none⟩), .int .i64 (l1.length : Int)] rfl (by (try simp only [List.map_toArray, List.map_cons, List.map_nil]); first | done | rfl | (simp only [List.length_drop, List.length_take]; rfl)) ?_; (with_reducible refine (spec_l1Next.calls g s0_0 t184 t185 (l1.length : Int) t191 t192 t193 w0 _ ?side1 ?side2 A13.out).mono ?_); (case side1 => repeat (first | (with_reducible first | exact HI0.out | apply IsS75.alloc | apply IsS75.drewN | apply IsS75.drew | apply IsS75.set_1 | apply IsS75.set_2) | exact HI0.out)); (case side2 => repeat (first | (with_reducible first | exact HB.out | apply below_alloc | apply pw_below_drewN | apply below_drew1 | refine below_set ?_ (IsS75.ge HI0.out)) | exact HB.out)); rintro e w22 ⟨rfl, hi, hb, hk⟩; refine ⟨_, rfl, ?_⟩; have n0_ := Aside0.mk (Kd.R_mono (Kd.R_keep (IsS75.apart (show IsS75 w0 _ g s0_0 t184 t185 from by repeat (first | (with_reducible first | exact HI0.out | apply IsS75.alloc | apply IsS75.drewN | apply IsS75.drew | apply IsS75.set_1 | apply IsS75.set_2) | exact HI0.out)) (by (with_reducible repeat (first | apply Kd.R_alloc | apply Kd.R_drewN | apply Kd.R_drew)); exact HO1.out) (by decide)) hk (fun _ h => h.2)) (fun _ h => h.1)); have n1_ := Aside0.mk (Kept.of_keep (S := (fun k_ => (P1_ k_) ∨ k_ = g)) (by repeat (first | (with_reducible first | exact HK.out | apply Kept.alloc | apply Kept.drewN | apply Kept.drew | refine Kept.setCell ?_ (.inl (.inr rfl)) _) | exact HK.out)) hk (.inl (.inr rfl))); have n2_ := Aside0.mk (hb); have n3_ := Aside0.mk (hi); clear HO1; clear HK; clear HB; clear HI0; have HO1 := n0_; have HK := n1_; have HB := n2_; have HI0 := n3_; clear n0_ n1_ n2_ n3_; (try clear hb); (try clear hb2); (try clear hk); (try clear hi)) | ((with_reducible refine gate_callee (f := 47) rfl ?_); refine goesL_ (some 23) rfl rfl Try.func47 (by kernel_rfl) rfl #[.pointer (some ⟨g, 0, none⟩), .int .i64 2] rfl (by (try simp only [List.map_toArray, List.map_cons, List.map_nil]); first | done | rfl | (simp only [List.length_drop, List.length_take]; rfl)) ?_; (with_reducible refine (spec_l1Chance.calls g s0_0 t192 t193 2 true t195 t196 w0 _ ?side1 ?side2 A14.out).mono ?_); (case side1 => repeat (first | (with_reducible first | exact HI0.out | apply IsS75.alloc | apply IsS75.drewN | apply IsS75.drew | apply IsS75.set_1 | apply IsS75.set_2) | exact HI0.out)); (case side2 => repeat (first | (with_reducible first | exact HB.out | apply below_alloc | apply pw_below_drewN | apply below_drew1 | refine below_set ?_ (IsS75.ge HI0.out)) | exact HB.out)); rintro e w23 ⟨rfl, hi, hb, hk⟩; refine ⟨_, rfl, ?_⟩; have n0_ := Aside0.mk (Kd.R_mono (Kd.R_keep (IsS75.apart (show IsS75 w0 _ g s0_0 t192 t193 from by repeat (first | (with_reducible first | exact HI0.out | apply IsS75.alloc | apply IsS75.drewN | apply IsS75.drew | apply IsS75.set_1 | apply IsS75.set_2) | exact HI0.out)) (by (with_reducible repeat (first | apply Kd.R_alloc | apply Kd.R_drewN | apply Kd.R_drew)); exact HO1.out) (by decide)) hk (fun _ h => h.2)) (fun _ h => h.1)); have n1_ := Aside0.mk (Kept.of_keep (S := (fun k_ => (P1_ k_) ∨ k_ = g)) (by repeat (first | (with_reducible first | exact HK.out | apply Kept.alloc | apply Kept.drewN | apply Kept.drew | refine Kept.setCell ?_ (.inl (.inr rfl)) _) | exact HK.out)) hk (.inl (.inr rfl))); have n2_ := Aside0.mk (hb); have n3_ := Aside0.mk (hi); clear HO1; clear HK; clear HB; clear HI0; have HO1 := n0_; have HK := n1_; have HB := n2_; have HI0 := n3_; clear n0_ n1_ n2_ n3_; (try clear hb); (try clear hb2); (try clear hk); (try clear hi)) | ((with_reducible refine gate_callee (f := 45) rfl ?_); refine goesL_ (some 25) rfl rfl Try.func45 (by kernel_rfl) rfl #[.pointer (some ⟨g, 0, none⟩), .int .i64 16] rfl (by (try simp only [List.map_toArray, List.map_cons, List.map_nil]); first | done | rfl | (simp only [List.length_drop, List.length_take]; rfl)) ?_; (with_reducible refine (spec_l1Next.calls g s0_0 t195 t196 16 t197 t198 t199 w0 _ ?side1 ?side2 A16.out).mono ?_); (case side1 => repeat (first | (with_reducible first | exact HI0.out | apply IsS75.alloc | apply IsS75.drewN | apply IsS75.drew | apply IsS75.set_1 | apply IsS75.set_2) | exact HI0.out)); (case side2 => repeat (first | (with_reducible first | exact HB.out | apply below_alloc | apply pw_below_drewN | apply below_drew1 | refine below_set ?_ (IsS75.ge HI0.out)) | exact HB.out)); rintro e w24 ⟨rfl, hi, hb, hk⟩; refine ⟨_, rfl, ?_⟩; have n0_ := Aside0.mk (Kd.R_mono (Kd.R_keep (IsS75.apart (show IsS75 w0 _ g s0_0 t195 t196 from by repeat (first | (with_reducible first | exact HI0.out | apply IsS75.alloc | apply IsS75.drewN | apply IsS75.drew | apply IsS75.set_1 | apply IsS75.set_2) | exact HI0.out)) (by (with_reducible repeat (first | apply Kd.R_alloc | apply Kd.R_drewN | apply Kd.R_drew)); exact HO1.out) (by decide)) hk (fun _ h => h.2)) (fun _ h => h.1)); have n1_ := Aside0.mk (Kept.of_keep (S := (fun k_ => (P1_ k_) ∨ k_ = g)) (by repeat (first | (with_reducible first | exact HK.out | apply Kept.alloc | apply Kept.drewN | apply Kept.drew | refine Kept.setCell ?_ (.inl (.inr rfl)) _) | exact HK.out)) hk (.inl (.inr rfl))); have n2_ := Aside0.mk (hb); have n3_ := Aside0.mk (hi); clear HO1; clear HK; clear HB; clear HI0; have HO1 := n0_; have HK := n1_; have HB := n2_; have HI0 := n3_; clear n0_ n1_ n2_ n3_; (try clear hb); (try clear hb2); (try clear hk); (try clear hi)))
              have n0_ := Aside0.mk (Kd.R_drew HO1.out)
              have n1_ := Aside0.mk (IsS75.drew HI0.out)
              have n2_ := Aside0.mk (Kept.drew HK.out)
              have n3_ := Aside0.mk (below_drew1 HB.out)
              clear HO1
              clear HI0
              clear HK
              clear HB
              have HO1 := n0_
              have HI0 := n1_
              have HK := n2_
              have HB := n3_
              clear n0_ n1_ n2_ n3_
              have p200 : 0 ≤ ((ji17) : Int) := of_decide_eq_true (by first | (with_reducible assumption) | assumption)
              have q200 : (ji17) < (l1.length : Int) := of_decide_eq_true (by first | (with_reducible assumption) | assumption)
              obtain ⟨ad200, e200, hx200_0⟩ := Kd.at_int (Kd.R_reads' HO1.out).2.2 (ji17) p200 q200
              cases e200
              replace p200 := eq_true p200
              replace q200 := eq_true q200
              refine start_ (n := 17) (S := fun w' => w'.cell? (ad200.add ((ji17)).toNat) = some (.int .u8 (rd l1 (ji17)))) (ds := [16]) #[false, false, false, false, false, false, false, false, false, false, false, false, false, false, false, false, false] (by kernel_rfl) rfl rfl (hx200_0) (fun hHeld => ?_); refine with_tabW spec_l3Turn.tab9 spec_l3Turn.bits9 (fun HT_ HW_ => ?_)
              generalize w24.drew = w25 at HO1 HI0 HK HB hx200_0 hHeld ⊢
              refine pure_ (i := 0) (N := some 26) (v := ?_) (a' := ?_) #[true, false, false, false, false, false, false, false, false, false, false, false, false, false, false, false, false] rfl rfl (any_of HT_.out (by kernel_rfl)) (fun _ _ _ h => h) (Or.inl ⟨by rfl, ?_⟩) ?_ ?_
              rotate_left
              · intro w'
                go_simp
                with_reducible rfl
              rotate_left
              · simp only [Act.put, List.setIfInBounds_toArray, List.set_cons_zero, List.set_cons_succ, i64_w, i32_w]
                rfl
              refine pure_ (i := 1) (N := some 27) (v := ?_) (a' := ?_) #[true, true, false, false, false, false, false, false, false, false, false, false, false, false, false, false, false] rfl rfl (any_of HT_.out (by kernel_rfl)) (fun _ _ _ h => h) (Or.inl ⟨by rfl, ?_⟩) ?_ ?_
              rotate_left
              · intro w'
                go_simp
                with_reducible rfl
              rotate_left
              · simp only [Act.put, List.setIfInBounds_toArray, List.set_cons_zero, List.set_cons_succ, i64_w, i32_w]
                rfl
              refine pure_ (i := 2) (N := some 28) (v := ?_) (a' := ?_) #[true, true, true, false, false, false, false, false, false, false, false, false, false, false, false, false, false] rfl rfl (any_of HT_.out (by kernel_rfl)) (fun _ _ _ h => h) (Or.inl ⟨by rfl, ?_⟩) ?_ ?_
              rotate_left
              · intro w'
                go_simp
                with_reducible rfl
              rotate_left
              · simp only [Act.put, List.setIfInBounds_toArray, List.set_cons_zero, List.set_cons_succ, i64_w, i32_w]
                rfl
              refine pure_ (i := 3) (N := some 29) (v := ?_) (a' := ?_) #[true, true, true, true, false, false, false, false, false, false, false, false, false, false, false, false, false] rfl rfl (any_of HT_.out (by kernel_rfl)) (fun _ _ _ h => h) (Or.inl ⟨by rfl, ?_⟩) ?_ ?_
              rotate_left
              · intro w'
                go_simp
                with_reducible rfl
              rotate_left
              · simp only [Act.put, List.setIfInBounds_toArray, List.set_cons_zero, List.set_cons_succ, i64_w, i32_w]
                rfl
              refine pure_ (i := 4) (N := some 30) (v := ?_) (a' := ?_) #[true, true, true, true, true, false, false, false, false, false, false, false, false, false, false, false, false] rfl rfl (any_of HT_.out (by kernel_rfl)) (fun _ _ _ h => h) (Or.inl ⟨by rfl, ?_⟩) ?_ ?_
              rotate_left
              · intro w'
                go_simp
                with_reducible rfl
              rotate_left
              · simp only [Act.put, List.setIfInBounds_toArray, List.set_cons_zero, List.set_cons_succ, i64_w, i32_w]
                rfl
              refine pure_ (i := 5) (N := some 31) (v := ?_) (a' := ?_) #[true, true, true, true, true, true, false, false, false, false, false, false, false, false, false, false, false] rfl rfl (any_of HT_.out (by kernel_rfl)) (fun _ _ _ h => h) (Or.inl ⟨by rfl, ?_⟩) ?_ ?_
              rotate_left
              · intro w'
                go_simp
                with_reducible rfl
              rotate_left
              · simp only [Act.put, List.setIfInBounds_toArray, List.set_cons_zero, List.set_cons_succ, i64_w, i32_w]
                rfl
              refine pure_ (i := 6) (N := some 32) (v := ?_) (a' := ?_) #[true, true, true, true, true, true, true, false, false, false, false, false, false, false, false, false, false] rfl rfl (any_of HT_.out (by kernel_rfl)) (fun _ _ _ h => h) (Or.inl ⟨by rfl, ?_⟩) ?_ ?_
              rotate_left
              · intro w'
                go_simp
                with_reducible rfl
              rotate_left
              · simp only [Act.put, List.setIfInBounds_toArray, List.set_cons_zero, List.set_cons_succ, i64_w, i32_w]
                rfl
              refine pure_ (i := 7) (N := some 33) (v := ?_) (a' := ?_) #[true, true, true, true, true, true, true, true, false, false, false, false, false, false, false, false, false] rfl rfl (any_of HT_.out (by kernel_rfl)) (fun _ _ _ h => h) (Or.inl ⟨by rfl, ?_⟩) ?_ ?_
              rotate_left
              · intro w'
                go_simp
                with_reducible rfl
              rotate_left
              · simp only [Act.put, List.setIfInBounds_toArray, List.set_cons_zero, List.set_cons_succ, i64_w, i32_w]
                rfl
              refine pure_ (i := 8) (N := some 34) (v := ?_) (a' := ?_) #[true, true, true, true, true, true, true, true, true, false, false, false, false, false, false, false, false] rfl rfl (any_of HT_.out (by kernel_rfl)) (fun _ _ _ h => h) (Or.inl ⟨by rfl, ?_⟩) ?_ ?_
              rotate_left
              · intro w'
                go_simp
                with_reducible rfl
              rotate_left
              · simp only [Act.put, List.setIfInBounds_toArray, List.set_cons_zero, List.set_cons_succ, i64_w, i32_w]
                rfl
              refine pure_ (i := 10) (N := some 36) (v := ?_) (a' := ?_) #[true, true, true, true, true, true, true, true, true, false, true, false, false, false, false, false, false] rfl rfl (any_of HT_.out (by kernel_rfl)) (fun _ _ _ h => h) (Or.inl ⟨by rfl, ?_⟩) ?_ ?_
              rotate_left
              · intro w'
                go_simp
                with_reducible rfl
              rotate_left
              · simp only [Act.put, List.setIfInBounds_toArray, List.set_cons_zero, List.set_cons_succ, i64_w, i32_w]
                rfl
              refine take_ (i := 9) (N := some 35) (v := ?_) (a' := ?_) #[true, true, true, true, true, true, true, true, true, true, true, false, false, false, false, false, false] rfl rfl (take_ofW HT_.out HW_.out (by kernel_rfl)) (fun _ _ _ h => h) (Or.inl ⟨by rfl, ?_⟩) hHeld ?_ ?_
              rotate_left
              · intro w' s0
                go_simp
                with_reducible rfl
              rotate_left
              · simp only [Act.put, List.setIfInBounds_toArray, List.set_cons_zero, List.set_cons_succ, i64_w, i32_w]
                rfl
              refine one_ (i := 11) (N := some 37) #[true, true, true, true, true, true, true, true, true, true, true, true, false, false, false, false, false] rfl rfl (one_of HT_.out (by kernel_rfl)) (by decide) (fun K hK => ?_)
              refine goes_ Try.func45 (by kernel_rfl) rfl #[.pointer (some ⟨g, 0, none⟩), .int .i64 255] (by rfl) rfl rfl (by (try simp only [List.map_toArray, List.map_cons, List.map_nil]); first | done | rfl | (simp only [List.length_drop, List.length_take]; rfl)) ?_
              with_reducible refine (spec_l1Next.calls g s0_0 t198 t199 255 t201 t202 t203 w0 _ ?side1 ?side2 A20.out).mono ?_
              (case side1 => repeat (first | (with_reducible first | exact HI0.out | apply IsS75.alloc | apply IsS75.drewN | apply IsS75.drew | apply IsS75.set_1 | apply IsS75.set_2) | exact HI0.out))
              (case side2 => repeat (first | (with_reducible first | exact HB.out | apply below_alloc | apply pw_below_drewN | apply below_drew1 | refine below_set ?_ (IsS75.ge HI0.out)) | exact HB.out))
              rintro e w26 ⟨rfl, hi, hb, hk⟩
              have HS0_ := keep_cell hk (hHeld) (by first | (rw [add_block]; exact Kd.own_blk (IsS75.own_ne HI0.out HO1.out (by decide))) | (show (Addr.add _ _).block ≠ _; rw [add_block]; exact Kd.own_blk (IsS75.own_ne HI0.out HO1.out (by decide))) | exact Kd.own_blk (IsS75.own_ne HI0.out HO1.out (by decide)))
              refine ⟨_, rfl, ?_⟩
              have n0_ := Aside0.mk (Kd.R_mono (Kd.R_keep (IsS75.apart (show IsS75 w0 _ g s0_0 t198 t199 from by repeat (first | (with_reducible first | exact HI0.out | apply IsS75.alloc | apply IsS75.drewN | apply IsS75.drew | apply IsS75.set_1 | apply IsS75.set_2) | exact HI0.out)) (by (with_reducible repeat (first | apply Kd.R_alloc | apply Kd.R_drewN | apply Kd.R_drew)); exact HO1.out) (by decide)) hk (fun _ h => h.2)) (fun _ h => h.1))
              have n1_ := Aside0.mk (Kept.of_keep (S := (fun k_ => (P1_ k_) ∨ k_ = g)) (by repeat (first | (with_reducible first | exact HK.out | apply Kept.alloc | apply Kept.drewN | apply Kept.drew | refine Kept.setCell ?_ (.inl (.inr rfl)) _) | exact HK.out)) hk (.inl (.inr rfl)))
              have n2_ := Aside0.mk (hb)
              have n3_ := Aside0.mk (hi)
              clear HO1
              clear HK
              clear HB
              clear HI0
              have HO1 := n0_
              have HK := n1_
              have HB := n2_
              have HI0 := n3_
              clear n0_ n1_ n2_ n3_
              (try clear hb)
              (try clear hb2)
              (try clear hk)
              (try clear hi)
              have p21 : 0 ≤ ((ji17) : Int) := of_decide_eq_true (by first | (with_reducible assumption) | assumption)
              have q21 : ((ji17) : Int) < ((l1.length : Int) : Int) := of_decide_eq_true (by first | (with_reducible assumption) | assumption)
              obtain ⟨go21, co21, eo21, gb21, gl21, cl21, HG21⟩ := Kd.R_form HO1.out (by omega)
              (first | cases eo21 | (injection eo21 with ea_ en_ ec_; (first | subst ea_ | (injection ea_ with ea_; subst ea_)); subst ec_; clear en_))
              have GB21 := Aside0.mk gb21
              have GG21 := Aside0.mk HG21
              clear gb21 gl21 HG21
              have HMgo21 := Aside0.mk (show (P1_ go21 ∨ w.heap.size ≤ go21) from (HO1.out.1 _ rfl))
              (first | simp only [add_plain] at hx200_0 | skip)
              obtain ⟨hx21_0, hf21_0⟩ := Kd.R_celln 0 HO1.out ((ji17) : Int) p21 q21
              replace p21 := eq_true p21
              replace q21 := eq_true q21
              have HN0_go21 := Aside0.mk (show g ≠ go21 from by have h_ := IsS75.own_ne HI0.out HO1.out (by decide); intro e_; exact h_ (by rw [e_]; rfl))
              have HP27 := Kd.R_putn HO1.out ((ji17) : Int) (Go.bits .xor .u8 (rd l1 (ji17)) ((wrap64 (1 + t201)) % 256))
              rw [← Ny204.out] at HP27
              have HQ27 := Aside0.mk HP27
              clear HP27
              refine hK.out _ _ (HS0_) (fun hHeld => ?_)
              clear hK K
              refine norm_ (a' := ?_) ?_ ?_
              rotate_left
              · show Act.put _ (some 37) _ = _
                simp only [Act.put, List.setIfInBounds_toArray, List.set_cons_zero, List.set_cons_succ, i64_w, i32_w]
                rfl
              refine pure_ (i := 12) (N := some 38) (v := ?_) (a' := ?_) #[true, true, true, true, true, true, true, true, true, true, true, true, true, false, false, false, false] rfl rfl (any_of HT_.out (by kernel_rfl)) (fun _ _ _ h => h) (Or.inl ⟨by rfl, ?_⟩) ?_ ?_
              rotate_left
              · intro w'
                go_simp
                with_reducible rfl
              rotate_left
              · simp only [Act.put, List.setIfInBounds_toArray, List.set_cons_zero, List.set_cons_succ, i64_w, i32_w]
                rfl
              refine pure_ (i := 13) (N := some 39) (v := ?_) (a' := ?_) #[true, true, true, true, true, true, true, true, true, true, true, true, true, true, false, false, false] rfl rfl (any_of HT_.out (by kernel_rfl)) (fun _ _ _ h => h) (Or.inl ⟨by rfl, ?_⟩) ?_ ?_
              rotate_left
              · intro w'
                go_simp
                with_reducible rfl
              rotate_left
              · simp only [Act.put, List.setIfInBounds_toArray, List.set_cons_zero, List.set_cons_succ, i64_w, i32_w]
                rfl
              refine pure_ (i := 14) (N := some 40) (v := ?_) (a' := ?_) #[true, true, true, true, true, true, true, true, true, true, true, true, true, true, true, false, false] rfl rfl (any_of HT_.out (by kernel_rfl)) (fun _ _ _ h => h) (Or.inl ⟨by rfl, ?_⟩) ?_ ?_
              rotate_left
              · intro w'
                go_simp
                with_reducible rfl
              rotate_left
              · simp only [Act.put, List.setIfInBounds_toArray, List.set_cons_zero, List.set_cons_succ, i64_w, i32_w]
                rfl
              refine pure_ (i := 15) (N := some 41) (v := ?_) (a' := ?_) #[true, true, true, true, true, true, true, true, true, true, true, true, true, true, true, true, false] rfl rfl (any_of HT_.out (by kernel_rfl)) (fun _ _ _ h => h) (Or.inl ⟨by rfl, ?_⟩) ?_ ?_
              rotate_left
              · intro w'
                go_simp
                with_reducible rfl
              rotate_left
              · simp only [Act.put, List.setIfInBounds_toArray, List.set_cons_zero, List.set_cons_succ, i64_w, i32_w]
                rfl
              refine last_ (i := 16) (N := none) #[true, true, true, true, true, true, true, true, true, true, true, true, true, true, true, true, true] rfl rfl (one_of HT_.out (by kernel_rfl)) (by decide) (fun K hK => ?_)
              refine skip_ (w1 := ?_) (by rfl) rfl ?_ ?_
              rotate_left
              · go_simp
                rfl
              refine hK.out _ _ ?_
              clear hK K
              refine done_ (done_of HT_.out (by kernel_rfl)) ?_
              try go_wp2
              go_meet
              case rel => exact ⟨_, (y204), (t202), (t203), H', ⟨by first | omega | exact Nat.le_refl _⟩, ⟨by (with_reducible repeat (first | apply Kd.R_alloc | apply Kd.R_drewN | apply Kd.R_drew)); exact HQ27.out⟩, ⟨by repeat (first | (with_reducible first | exact HI0.out | apply IsS75.alloc | apply IsS75.drewN | apply IsS75.drew | apply IsS75.set_1 | apply IsS75.set_2 | refine IsS75.far ?_ HN0_go21.out _) | exact HI0.out)⟩, ⟨by repeat (first | (with_reducible first | exact HK.out | apply Kept.alloc | apply Kept.drewN | apply Kept.drew | refine Kept.setCell ?_ (Or.imp_left Or.inl HMgo21.out) _ | refine Kept.setCell ?_ (.inl (.inr rfl)) _) | exact HK.out)⟩, ⟨by repeat (first | (with_reducible first | exact HB.out | apply below_alloc | apply pw_below_drewN | apply below_drew1 | refine below_set ?_ GB21.out | refine below_set ?_ (IsS75.ge HI0.out)) | exact HB.out)⟩⟩
            · rw [if_neg c19] at H
              exact absurd H (by simp)
          · rw [if_neg c18] at H
            exact absurd H (by simp)
        · replace c15 := Bool.eq_false_iff.mpr c15
          subst c15
          have H1 : (if 0 ≤ (Int.tmod t191 (l1.length : Int)) then (if (Int.tmod t191 (l1.length : Int)) < (l1.length : Int) then ((spec_l1Next.f s0_0 t195 t196 255).bind fun bt206 => (spec_l3Turn.j0 k (l1.set ((Int.tmod t191 (l1.length : Int)) : Int).toNat (Go.bits .xor .u8 (rd l1 (Int.tmod t191 (l1.length : Int))) ((wrap64 (1 + bt206.1)) % 256))) t183 (l1.length : Int) s0_0 bt206.2.1 bt206.2.2)) else (none)) else (none)) = some (r1, r2, r3) := by rw [if_neg (show ¬ (false = true) by decide)] at H; exact H
          clear H
          have H := H1
          clear H1
          obtain ⟨ji28, hji28⟩ : ∃ j_ : Int, (Int.tmod t191 (l1.length : Int)) = j_ := ⟨_, rfl⟩
          replace H : (if 0 ≤ (ji28) then (if (ji28) < (l1.length : Int) then ((spec_l1Next.f s0_0 t195 t196 255).bind fun bt206 => (spec_l3Turn.j0 k (l1.set ((ji28) : Int).toNat (Go.bits .xor .u8 (rd l1 (ji28)) ((wrap64 (1 + bt206.1)) % 256))) t183 (l1.length : Int) s0_0 bt206.2.1 bt206.2.2)) else (none)) else (none)) = some (r1, r2, r3) := by first | (rw [hji28] at H; exact H) | (simp only [hji28] at H ⊢; exact H)
          (try rw [hji28] at A13)
          (try rw [hji28] at A14)
          by_cases c29 : 0 ≤ (ji28)
          · rw [if_pos c29] at H
            have c29b0 : decide (0 ≤ (ji28)) = true := decide_eq_true c29
            clear c29
            by_cases c30 : (ji28) < (l1.length : Int)
            · rw [if_pos c30] at H
              have c30b0 : decide ((ji28) < (l1.length : Int)) = true := decide_eq_true c30
              clear c30
              replace H := Option.bind_eq_some_iff.mp H
              obtain ⟨⟨t206, t207, t208⟩, A310, H⟩ := H
              replace H : (spec_l3Turn.j0 k (l1.set ((ji28) : Int).toNat (Go.bits .xor .u8 (rd l1 (ji28)) ((wrap64 (1 + t206)) % 256))) t183 (l1.length : Int) s0_0 t207 t208) = some (r1, r2, r3) := H
              have A31 := Aside0.mk A310
              clear A310
              obtain ⟨y209, hy209⟩ : ∃ y_ : List Int, y_ = (l1.set ((ji28) : Int).toNat (Go.bits .xor .u8 (rd l1 (ji28)) ((wrap64 (1 + t206)) % 256))) := ⟨_, rfl⟩
              replace H : (spec_l3Turn.j0 k y209 t183 (l1.length : Int) s0_0 t207 t208) = some (r1, r2, r3) := by first | (rw [hy209]; with_reducible exact H) | (have H2_ := (Option.bind_some _ _).symm.trans H; rw [hy209]; with_reducible exact H2_) | (have H2_ := (Option.bind_some _ _).symm.trans H; with_reducible exact H2_) | with_reducible exact H | (rw [hy209]; exact H) | exact H
              have Ny209 := Aside0.mk hy209
              clear hy209
              have H' := Aside0.mk H
              clear H
              try go_wp2_with (first | ((with_reducible refine gate_callee (f := 45) rfl ?_); refine goesL_ (some 21) rfl rfl Try.func45 (by kernel_rfl) rfl #[.pointer (some ⟨g, 0, none⟩), .int .i64 (l1.length : Int)] rfl (by (try simp only [List.map_toArray, List.map_cons, List.map_nil]); first | done | rfl | (simp only [List.length_drop, List.length_take]; rfl)) ?_; (with_reducible refine (spec_l1Next.calls g s0_0 t184 t185 (l1.length : Int) t191 t192 t193 w0 _ ?side1 ?side2 A13.out).mono ?_); (case side1 => repeat (first | (with_reducible first | exact HI0.out | apply IsS75.alloc | apply IsS75.drewN | apply IsS75.drew | apply IsS75.set_1 | apply IsS75.set_2) | exact HI0.out)); (case side2 => repeat (first | (with_reducible first | exact HB.out | apply below_alloc | apply pw_below_drewN | apply below_drew1 | refine below_set ?_ (IsS75.ge HI0.out)) | exact HB.out)); rintro e w33 ⟨rfl, hi, hb, hk⟩; refine ⟨_, rfl, ?_⟩; have n0_ := Aside0.mk (Kd.R_mono (Kd.R_keep (IsS75.apart (show IsS75 w0 _ g s0_0 t184 t185 from by repeat (first | (with_reducible first | exact HI0.out | apply IsS75.alloc | apply IsS75.drewN | apply IsS75.drew | apply IsS75.set_1 | apply IsS75.set_2) | exact HI0.out)) (by (with_reducible repeat (first | apply Kd.R_alloc | apply Kd.R_drewN | apply Kd.R_drew)); exact HO1.out) (by decide)) hk (fun _ h => h.2)) (fun _ h => h.1)); have n1_ := Aside0.mk (Kept.of_keep (S := (fun k_ => (P1_ k_) ∨ k_ = g)) (by repeat (first | (with_reducible first | exact HK.out | apply Kept.alloc | apply Kept.drewN | apply Kept.drew | refine Kept.setCell ?_ (.inl (.inr rfl)) _) | exact HK.out)) hk (.inl (.inr rfl))); have n2_ := Aside0.mk (hb); have n3_ := Aside0.mk (hi); clear HO1; clear HK; clear HB; clear HI0; have HO1 := n0_; have HK := n1_; have HB := n2_; have HI0 := n3_; clear n0_ n1_ n2_ n3_; (try clear hb); (try clear hb2); (try clear hk); (try clear hi)) | ((with_reducible refine gate_callee (f := 47) rfl ?_); refine goesL_ (some 23) rfl rfl Try.func47 (by kernel_rfl) rfl #[.pointer (some ⟨g, 0, none⟩), .int .i64 2] rfl (by (try simp only [List.map_toArray, List.map_cons, List.map_nil]); first | done | rfl | (simp only [List.length_drop, List.length_take]; rfl)) ?_; (with_reducible refine (spec_l1Chance.calls g s0_0 t192 t193 2 false t195 t196 w0 _ ?side1 ?side2 A14.out).mono ?_); (case side1 => repeat (first | (with_reducible first | exact HI0.out | apply IsS75.alloc | apply IsS75.drewN | apply IsS75.drew | apply IsS75.set_1 | apply IsS75.set_2) | exact HI0.out)); (case side2 => repeat (first | (with_reducible first | exact HB.out | apply below_alloc | apply pw_below_drewN | apply below_drew1 | refine below_set ?_ (IsS75.ge HI0.out)) | exact HB.out)); rintro e w34 ⟨rfl, hi, hb, hk⟩; refine ⟨_, rfl, ?_⟩; have n0_ := Aside0.mk (Kd.R_mono (Kd.R_keep (IsS75.apart (show IsS75 w0 _ g s0_0 t192 t193 from by repeat (first | (with_reducible first | exact HI0.out | apply IsS75.alloc | apply IsS75.drewN | apply IsS75.drew | apply IsS75.set_1 | apply IsS75.set_2) | exact HI0.out)) (by (with_reducible repeat (first | apply Kd.R_alloc | apply Kd.R_drewN | apply Kd.R_drew)); exact HO1.out) (by decide)) hk (fun _ h => h.2)) (fun _ h => h.1)); have n1_ := Aside0.mk (Kept.of_keep (S := (fun k_ => (P1_ k_) ∨ k_ = g)) (by repeat (first | (with_reducible first | exact HK.out | apply Kept.alloc | apply Kept.drewN | apply Kept.drew | refine Kept.setCell ?_ (.inl (.inr rfl)) _) | exact HK.out)) hk (.inl (.inr rfl))); have n2_ := Aside0.mk (hb); have n3_ := Aside0.mk (hi); clear HO1; clear HK; clear HB; clear HI0; have HO1 := n0_; have HK := n1_; have HB := n2_; have HI0 := n3_; clear n0_ n1_ n2_ n3_; (try clear hb); (try clear hb2); (try clear hk); (try clear hi)))
              have n0_ := Aside0.mk (Kd.R_drew HO1.out)
              have n1_ := Aside0.mk (IsS75.drew HI0.out)
              have n2_ := Aside0.mk (Kept.drew HK.out)
              have n3_ := Aside0.mk (below_drew1 HB.out)
              clear HO1
              clear HI0
              clear HK
              clear HB
              have HO1 := n0_
              have HI0 := n1_
              have HK := n2_
              have HB := n3_
              clear n0_ n1_ n2_ n3_
              have p205 : 0 ≤ ((ji28) : Int) := of_decide_eq_true (by first | (with_reducible assumption) | assumption)
              have q205 : (ji28) < (l1.length : Int) := of_decide_eq_true (by first | (with_reducible assumption) | assumption)
              obtain ⟨ad205, e205, hx205_0⟩ := Kd.at_int (Kd.R_reads' HO1.out).2.2 (ji28) p205 q205
              cases e205
              replace p205 := eq_true p205
              replace q205 := eq_true q205
              refine start_ (n := 17) (S := fun w' => w'.cell? (ad205.add ((ji28)).toNat) = some (.int .u8 (rd l1 (ji28)))) (ds := [16]) #[false, false, false, false, false, false, false, false, false, false, false, false, false, false, false, false, false] (by kernel_rfl) rfl rfl (hx205_0) (fun hHeld => ?_); refine with_tabW spec_l3Turn.tab9 spec_l3Turn.bits9 (fun HT_ HW_ => ?_)
              generalize w34.drew = w35 at HO1 HI0 HK HB hx205_0 hHeld ⊢
              refine pure_ (i := 0) (N := some 26) (v := ?_) (a' := ?_) #[true, false, false, false, false, false, false, false, false, false, false, false, false, false, false, false, false] rfl rfl (any_of HT_.out (by kernel_rfl)) (fun _ _ _ h => h) (Or.inl ⟨by rfl, ?_⟩) ?_ ?_
              rotate_left
              · intro w'
                go_simp
                with_reducible rfl
              rotate_left
              · simp only [Act.put, List.setIfInBounds_toArray, List.set_cons_zero, List.set_cons_succ, i64_w, i32_w]
                rfl
              refine pure_ (i := 1) (N := some 27) (v := ?_) (a' := ?_) #[true, true, false, false, false, false, false, false, false, false, false, false, false, false, false, false, false] rfl rfl (any_of HT_.out (by kernel_rfl)) (fun _ _ _ h => h) (Or.inl ⟨by rfl, ?_⟩) ?_ ?_
              rotate_left
              · intro w'
                go_simp
                with_reducible rfl
              rotate_left
              · simp only [Act.put, List.setIfInBounds_toArray, List.set_cons_zero, List.set_cons_succ, i64_w, i32_w]
                rfl
              refine pure_ (i := 2) (N := some 28) (v := ?_) (a' := ?_) #[true, true, true, false, false, false, false, false, false, false, false, false, false, false, false, false, false] rfl rfl (any_of HT_.out (by kernel_rfl)) (fun _ _ _ h => h) (Or.inl ⟨by rfl, ?_⟩) ?_ ?_
              rotate_left
              · intro w'
                go_simp
                with_reducible rfl
              rotate_left
              · simp only [Act.put, List.setIfInBounds_toArray, List.set_cons_zero, List.set_cons_succ, i64_w, i32_w]
                rfl
              refine pure_ (i := 3) (N := some 29) (v := ?_) (a' := ?_) #[true, true, true, true, false, false, false, false, false, false, false, false, false, false, false, false, false] rfl rfl (any_of HT_.out (by kernel_rfl)) (fun _ _ _ h => h) (Or.inl ⟨by rfl, ?_⟩) ?_ ?_
              rotate_left
              · intro w'
                go_simp
                with_reducible rfl
              rotate_left
              · simp only [Act.put, List.setIfInBounds_toArray, List.set_cons_zero, List.set_cons_succ, i64_w, i32_w]
                rfl
              refine pure_ (i := 4) (N := some 30) (v := ?_) (a' := ?_) #[true, true, true, true, true, false, false, false, false, false, false, false, false, false, false, false, false] rfl rfl (any_of HT_.out (by kernel_rfl)) (fun _ _ _ h => h) (Or.inl ⟨by rfl, ?_⟩) ?_ ?_
              rotate_left
              · intro w'
                go_simp
                with_reducible rfl
              rotate_left
              · simp only [Act.put, List.setIfInBounds_toArray, List.set_cons_zero, List.set_cons_succ, i64_w, i32_w]
                rfl
              refine pure_ (i := 5) (N := some 31) (v := ?_) (a' := ?_) #[true, true, true, true, true, true, false, false, false, false, false, false, false, false, false, false, false] rfl rfl (any_of HT_.out (by kernel_rfl)) (fun _ _ _ h => h) (Or.inl ⟨by rfl, ?_⟩) ?_ ?_
              rotate_left
              · intro w'
                go_simp
                with_reducible rfl
              rotate_left
              · simp only [Act.put, List.setIfInBounds_toArray, List.set_cons_zero, List.set_cons_succ, i64_w, i32_w]
                rfl
              refine pure_ (i := 6) (N := some 32) (v := ?_) (a' := ?_) #[true, true, true, true, true, true, true, false, false, false, false, false, false, false, false, false, false] rfl rfl (any_of HT_.out (by kernel_rfl)) (fun _ _ _ h => h) (Or.inl ⟨by rfl, ?_⟩) ?_ ?_
              rotate_left
              · intro w'
                go_simp
                with_reducible rfl
              rotate_left
              · simp only [Act.put, List.setIfInBounds_toArray, List.set_cons_zero, List.set_cons_succ, i64_w, i32_w]
                rfl
              refine pure_ (i := 7) (N := some 33) (v := ?_) (a' := ?_) #[true, true, true, true, true, true, true, true, false, false, false, false, false, false, false, false, false] rfl rfl (any_of HT_.out (by kernel_rfl)) (fun _ _ _ h => h) (Or.inl ⟨by rfl, ?_⟩) ?_ ?_
              rotate_left
              · intro w'
                go_simp
                with_reducible rfl
              rotate_left
              · simp only [Act.put, List.setIfInBounds_toArray, List.set_cons_zero, List.set_cons_succ, i64_w, i32_w]
                rfl
              refine pure_ (i := 8) (N := some 34) (v := ?_) (a' := ?_) #[true, true, true, true, true, true, true, true, true, false, false, false, false, false, false, false, false] rfl rfl (any_of HT_.out (by kernel_rfl)) (fun _ _ _ h => h) (Or.inl ⟨by rfl, ?_⟩) ?_ ?_
              rotate_left
              · intro w'
                go_simp
                with_reducible rfl
              rotate_left
              · simp only [Act.put, List.setIfInBounds_toArray, List.set_cons_zero, List.set_cons_succ, i64_w, i32_w]
                rfl
              refine pure_ (i := 10) (N := some 36) (v := ?_) (a' := ?_) #[true, true, true, true, true, true, true, true, true, false, true, false, false, false, false, false, false] rfl rfl (any_of HT_.out (by kernel_rfl)) (fun _ _ _ h => h) (Or.inl ⟨by rfl, ?_⟩) ?_ ?_
              rotate_left
              · intro w'
                go_simp
                with_reducible rfl
              rotate_left
              · simp only [Act.put, List.setIfInBounds_toArray, List.set_cons_zero, List.set_cons_succ, i64_w, i32_w]
                rfl
              refine take_ (i := 9) (N := some 35) (v := ?_) (a' := ?_) #[true, true, true, true, true, true, true, true, true, true, true, false, false, false, false, false, false] rfl rfl (take_ofW HT_.out HW_.out (by kernel_rfl)) (fun _ _ _ h => h) (Or.inl ⟨by rfl, ?_⟩) hHeld ?_ ?_
              rotate_left
              · intro w' s0
                go_simp
                with_reducible rfl
              rotate_left
              · simp only [Act.put, List.setIfInBounds_toArray, List.set_cons_zero, List.set_cons_succ, i64_w, i32_w]
                rfl
              refine one_ (i := 11) (N := some 37) #[true, true, true, true, true, true, true, true, true, true, true, true, false, false, false, false, false] rfl rfl (one_of HT_.out (by kernel_rfl)) (by decide) (fun K hK => ?_)
              refine goes_ Try.func45 (by kernel_rfl) rfl #[.pointer (some ⟨g, 0, none⟩), .int .i64 255] (by rfl) rfl rfl (by (try simp only [List.map_toArray, List.map_cons, List.map_nil]); first | done | rfl | (simp only [List.length_drop, List.length_take]; rfl)) ?_
              with_reducible refine (spec_l1Next.calls g s0_0 t195 t196 255 t206 t207 t208 w0 _ ?side1 ?side2 A31.out).mono ?_
              (case side1 => repeat (first | (with_reducible first | exact HI0.out | apply IsS75.alloc | apply IsS75.drewN | apply IsS75.drew | apply IsS75.set_1 | apply IsS75.set_2) | exact HI0.out))
              (case side2 => repeat (first | (with_reducible first | exact HB.out | apply below_alloc | apply pw_below_drewN | apply below_drew1 | refine below_set ?_ (IsS75.ge HI0.out)) | exact HB.out))
              rintro e w36 ⟨rfl, hi, hb, hk⟩
              have HS0_ := keep_cell hk (hHeld) (by first | (rw [add_block]; exact Kd.own_blk (IsS75.own_ne HI0.out HO1.out (by decide))) | (show (Addr.add _ _).block ≠ _; rw [add_block]; exact Kd.own_blk (IsS75.own_ne HI0.out HO1.out (by decide))) | exact Kd.own_blk (IsS75.own_ne HI0.out HO1.out (by decide)))
              refine ⟨_, rfl, ?_⟩
              have n0_ := Aside0.mk (Kd.R_mono (Kd.R_keep (IsS75.apart (show IsS75 w0 _ g s0_0 t195 t196 from by repeat (first | (with_reducible first | exact HI0.out | apply IsS75.alloc | apply IsS75.drewN | apply IsS75.drew | apply IsS75.set_1 | apply IsS75.set_2) | exact HI0.out)) (by (with_reducible repeat (first | apply Kd.R_alloc | apply Kd.R_drewN | apply Kd.R_drew)); exact HO1.out) (by decide)) hk (fun _ h => h.2)) (fun _ h => h.1))
              have n1_ := Aside0.mk (Kept.of_keep (S := (fun k_ => (P1_ k_) ∨ k_ = g)) (by repeat (first | (with_reducible first | exact HK.out | apply Kept.alloc | apply Kept.drewN | apply Kept.drew | refine Kept.setCell ?_ (.inl (.inr rfl)) _) | exact HK.out)) hk (.inl (.inr rfl)))
              have n2_ := Aside0.mk (hb)
              have n3_ := Aside0.mk (hi)
              clear HO1
              clear HK
              clear HB
              clear HI0
              have HO1 := n0_
              have HK := n1_
              have HB := n2_
              have HI0 := n3_
              clear n0_ n1_ n2_ n3_
              (try clear hb)
              (try clear hb2)
              (try clear hk)
              (try clear hi)
              have p32 : 0 ≤ ((ji28) : Int) := of_decide_eq_true (by first | (with_reducible assumption) | assumption)
              have q32 : ((ji28) : Int) < ((l1.length : Int) : Int) := of_decide_eq_true (by first | (with_reducible assumption) | assumption)
              obtain ⟨go32, co32, eo32, gb32, gl32, cl32, HG32⟩ := Kd.R_form HO1.out (by omega)
              (first | cases eo32 | (injection eo32 with ea_ en_ ec_; (first | subst ea_ | (injection ea_ with ea_; subst ea_)); subst ec_; clear en_))
              have GB32 := Aside0.mk gb32
              have GG32 := Aside0.mk HG32
              clear gb32 gl32 HG32
              have HMgo32 := Aside0.mk (show (P1_ go32 ∨ w.heap.size ≤ go32) from (HO1.out.1 _ rfl))
              (first | simp only [add_plain] at hx205_0 | skip)
              obtain ⟨hx32_0, hf32_0⟩ := Kd.R_celln 0 HO1.out ((ji28) : Int) p32 q32
              replace p32 := eq_true p32
              replace q32 := eq_true q32
              have HN0_go32 := Aside0.mk (show g ≠ go32 from by have h_ := IsS75.own_ne HI0.out HO1.out (by decide); intro e_; exact h_ (by rw [e_]; rfl))
              have HP37 := Kd.R_putn HO1.out ((ji28) : Int) (Go.bits .xor .u8 (rd l1 (ji28)) ((wrap64 (1 + t206)) % 256))
              rw [← Ny209.out] at HP37
              have HQ37 := Aside0.mk HP37
              clear HP37
              refine hK.out _ _ (HS0_) (fun hHeld => ?_)
              clear hK K
              refine norm_ (a' := ?_) ?_ ?_
              rotate_left
              · show Act.put _ (some 37) _ = _
                simp only [Act.put, List.setIfInBounds_toArray, List.set_cons_zero, List.set_cons_succ, i64_w, i32_w]
                rfl
              refine pure_ (i := 12) (N := some 38) (v := ?_) (a' := ?_) #[true, true, true, true, true, true, true, true, true, true, true, true, true, false, false, false, false] rfl rfl (any_of HT_.out (by kernel_rfl)) (fun _ _ _ h => h) (Or.inl ⟨by rfl, ?_⟩) ?_ ?_
              rotate_left
              · intro w'
                go_simp
                with_reducible rfl
              rotate_left
              · simp only [Act.put, List.setIfInBounds_toArray, List.set_cons_zero, List.set_cons_succ, i64_w, i32_w]
                rfl
              refine pure_ (i := 13) (N := some 39) (v := ?_) (a' := ?_) #[true, true, true, true, true, true, true, true, true, true, true, true, true, true, false, false, false] rfl rfl (any_of HT_.out (by kernel_rfl)) (fun _ _ _ h => h) (Or.inl ⟨by rfl, ?_⟩) ?_ ?_
              rotate_left
              · intro w'
                go_simp
                with_reducible rfl
              rotate_left
              · simp only [Act.put, List.setIfInBounds_toArray, List.set_cons_zero, List.set_cons_succ, i64_w, i32_w]
                rfl
              refine pure_ (i := 14) (N := some 40) (v := ?_) (a' := ?_) #[true, true, true, true, true, true, true, true, true, true, true, true, true, true, true, false, false] rfl rfl (any_of HT_.out (by kernel_rfl)) (fun _ _ _ h => h) (Or.inl ⟨by rfl, ?_⟩) ?_ ?_
              rotate_left
              · intro w'
                go_simp
                with_reducible rfl
              rotate_left
              · simp only [Act.put, List.setIfInBounds_toArray, List.set_cons_zero, List.set_cons_succ, i64_w, i32_w]
                rfl
              refine pure_ (i := 15) (N := some 41) (v := ?_) (a' := ?_) #[true, true, true, true, true, true, true, true, true, true, true, true, true, true, true, true, false] rfl rfl (any_of HT_.out (by kernel_rfl)) (fun _ _ _ h => h) (Or.inl ⟨by rfl, ?_⟩) ?_ ?_
              rotate_left
              · intro w'
                go_simp
                with_reducible rfl
              rotate_left
              · simp only [Act.put, List.setIfInBounds_toArray, List.set_cons_zero, List.set_cons_succ, i64_w, i32_w]
                rfl
              refine last_ (i := 16) (N := none) #[true, true, true, true, true, true, true, true, true, true, true, true, true, true, true, true, true] rfl rfl (one_of HT_.out (by kernel_rfl)) (by decide) (fun K hK => ?_)
              refine skip_ (w1 := ?_) (by rfl) rfl ?_ ?_
              rotate_left
              · go_simp
                rfl
              refine hK.out _ _ ?_
              clear hK K
              refine done_ (done_of HT_.out (by kernel_rfl)) ?_
              try go_wp2
              go_meet
              case rel => exact ⟨_, (y209), (t207), (t208), H', ⟨by first | omega | exact Nat.le_refl _⟩, ⟨by (with_reducible repeat (first | apply Kd.R_alloc | apply Kd.R_drewN | apply Kd.R_drew)); exact HQ37.out⟩, ⟨by repeat (first | (with_reducible first | exact HI0.out | apply IsS75.alloc | apply IsS75.drewN | apply IsS75.drew | apply IsS75.set_1 | apply IsS75.set_2 | refine IsS75.far ?_ HN0_go32.out _) | exact HI0.out)⟩, ⟨by repeat (first | (with_reducible first | exact HK.out | apply Kept.alloc | apply Kept.drewN | apply Kept.drew | refine Kept.setCell ?_ (Or.imp_left Or.inl HMgo32.out) _ | refine Kept.setCell ?_ (.inl (.inr rfl)) _) | exact HK.out)⟩, ⟨by repeat (first | (with_reducible first | exact HB.out | apply below_alloc | apply pw_below_drewN | apply below_drew1 | refine below_set ?_ GB32.out | refine below_set ?_ (IsS75.ge HI0.out)) | exact HB.out)⟩⟩
            · rw [if_neg c30] at H
              exact absurd H (by simp)
          · rw [if_neg c29] at H
            exact absurd H (by simp)
      · rw [if_neg c12] at H
        have c12b0 : decide (t183 < 3) = false := decide_eq_false c12
        clear c12
        (first | rw [c12b0] | (simp only [i64_w, i32_w]; rw [c12b0]) | skip)
        have H' := Aside0.mk H
        clear H
        go_wp2
        go_meet
        case rel => exact ⟨_, (l1), (t184), (t185), H', ⟨by first | omega | exact Nat.le_refl _⟩, ⟨by (with_reducible repeat (first | apply Kd.R_alloc | apply Kd.R_drewN | apply Kd.R_drew)); exact HO1.out⟩, ⟨by repeat (first | (with_reducible first | exact HI0.out | apply IsS75.alloc | apply IsS75.drewN | apply IsS75.drew | apply IsS75.set_1 | apply IsS75.set_2) | exact HI0.out)⟩, ⟨by repeat (first | (with_reducible first | exact HK.out | apply Kept.alloc | apply Kept.drewN | apply Kept.drew | refine Kept.setCell ?_ (.inl (.inr rfl)) _) | exact HK.out)⟩, ⟨by repeat (first | (with_reducible first | exact HB.out | apply below_alloc | apply pw_below_drewN | apply below_drew1 | refine below_set ?_ (IsS75.ge HI0.out)) | exact HB.out)⟩⟩
    case rest =>
      clear HC9
      try clear c1
      try clear c2
      try clear p2
      try clear q2
      try clear hx2
      try clear hf2
      try clear c3
      try clear p3
      try clear q3
      try clear hx3
      try clear hf3
      try clear c4
      try clear c4b0
      try clear c4b1
      try clear c4b2
      try clear c5
      try clear p6
      try clear c12
      try clear c12b0
      try clear c15
      try clear c18
      try clear c18b0
      try clear c19
      try clear c19b0
      try clear p20
      try clear q20
      try clear hx20
      try clear p21
      try clear q21
      try clear hx21
      try clear hf21
      try clear c29
      try clear c29b0
      try clear c30
      try clear c30b0
      try clear p32
      try clear q32
      try clear hx32
      try clear hf32
      try clear hx200_0
      try clear hx205_0
      try clear hx21_0
      try clear hx32_0
      try clear p200
      try clear p205
      try clear p21
      try clear p32
      try clear q200
      try clear q205
      try clear q21
      try clear q32
      obtain ⟨kq, x1_8, x1001_8, x1002_8, HA, HJ8, HO_1, HI0, HK, HB⟩ := hcut
      have hl1_8 := (Kd.R_reads' HO_1.out).1
      rw [hl1_8] at HO_1
      (try simp only [hl1_8])
      cases kq with
      | zero => exact absurd HA.out (by simp [spec_l3Turn.j0])
      | succ kj8 =>
        have H := HA.out
        clear HA
        simp only [spec_l3Turn.j0] at H
        have HC38 := Aside0.mk H
        clear H
        go_upto_region 10 with (fail)
        go_cut [47] (fun v47 wc => ∃ (kq : Nat) (x47_37 : Bool) (x1001_37 : Int) (x1002_37 : Int), v47 = .bool x47_37 ∧ Aside0 (spec_l3Turn.j1 kq x1_8 t183 (l1.length : Int) x47_37 s0_0 x1001_37 x1002_37 = some (r1, r2, r3)) ∧ Aside0 (kq ≤ kj8) ∧ Aside0 (Kd.R (Kd.int .u8) 5 wc w0.heap.size (fun k_ => (P1_ k_ ∨ w.heap.size ≤ k_)) (.slice Ao11 x1_8.length co11) x1_8) ∧ Aside0 (IsS75 w0 wc g s0_0 x1001_37 x1002_37) ∧ Aside0 (Kept w wc (fun k_ => (P1_ k_) ∨ k_ = g)) ∧ Aside0 (Below w0.heap.size w0 wc))
        case first =>
          have H := HC38.out
          clear HC38
          by_cases c39 : t183 = 3
          · rw [if_pos c39] at H
            have c39b0 : (t183 == 3) = true := beq_iff_eq.mpr c39
            have c39b1 : (t183 != 3) = false := bne_eq_false_iff_eq.mpr c39
            clear c39
            (first | rw [c39b0] | (simp only [i64_w, i32_w]; rw [c39b0]) | skip)
            replace H := Option.bind_eq_some_iff.mp H
            obtain ⟨⟨t210, t211, t212⟩, A400, H⟩ := H
            replace H : (spec_l3Turn.j1 kj8 x1_8 t183 (l1.length : Int) t210 s0_0 t211 t212) = some (r1, r2, r3) := H
            have A40 := Aside0.mk A400
            clear A400
            have H' := Aside0.mk H
            clear H
            go_wp2_with (first | (go_at_call 47; (with_reducible refine (spec_l1Chance.calls g s0_0 x1001_8 x1002_8 2 t210 t211 t212 w0 _ ?side1 ?side2 A40.out).mono ?_); (case side1 => repeat (first | (with_reducible first | exact HI0.out | apply IsS75.alloc | apply IsS75.drewN | apply IsS75.drew | apply IsS75.set_1 | apply IsS75.set_2) | exact HI0.out)); (case side2 => repeat (first | (with_reducible first | exact HB.out | apply below_alloc | apply pw_below_drewN | apply below_drew1 | refine below_set ?_ (IsS75.ge HI0.out)) | exact HB.out)); rintro e w41 ⟨rfl, hi, hb, hk⟩; have n0_ := Aside0.mk (Kd.R_mono (Kd.R_keep (IsS75.apart (show IsS75 w0 _ g s0_0 x1001_8 x1002_8 from by repeat (first | (with_reducible first | exact HI0.out | apply IsS75.alloc | apply IsS75.drewN | apply IsS75.drew | apply IsS75.set_1 | apply IsS75.set_2) | exact HI0.out)) (by (with_reducible repeat (first | apply Kd.R_alloc | apply Kd.R_drewN | apply Kd.R_drew)); exact HO_1.out) (by decide)) hk (fun _ h => h.2)) (fun _ h => h.1)); have n1_ := Aside0.mk (Kept.of_keep (S := (fun k_ => (P1_ k_) ∨ k_ = g)) (by repeat (first | (with_reducible first | exact HK.out | apply Kept.alloc | apply Kept.drewN | apply Kept.drew | refine Kept.setCell ?_ (.inl (.inr rfl)) _) | exact HK.out)) hk (.inl (.inr rfl))); have n2_ := Aside0.mk (hb); have n3_ := Aside0.mk (hi); clear HO_1; clear HK; clear HB; clear HI0; have HO_1 := n0_; have HK := n1_; have HB := n2_; have HI0 := n3_; clear n0_ n1_ n2_ n3_; (try clear hb); (try clear hb2); (try clear hk); (try clear hi)))
            go_meet
            case rel => exact ⟨_, (t210), (t211), (t212), (by first | rfl | (simp; done) | (simp [*]; done)), H', ⟨by have := HJ8.out; first | omega | exact Nat.le_refl _⟩, ⟨by (try simp only [hl1_8]); (with_reducible repeat (first | apply Kd.R_alloc | apply Kd.R_drewN | apply Kd.R_drew)); exact HO_1.out⟩, ⟨by repeat (first | (with_reducible first | exact HI0.out | apply IsS75.alloc | apply IsS75.drewN | apply IsS75.drew | apply IsS75.set_1 | apply IsS75.set_2) | exact HI0.out)⟩, ⟨by repeat (first | (with_reducible first | exact HK.out | apply Kept.alloc | apply Kept.drewN | apply Kept.drew | refine Kept.setCell ?_ (.inl (.inr rfl)) _) | exact HK.out)⟩, ⟨by repeat (first | (with_reducible first | exact HB.out | apply below_alloc | apply pw_below_drewN | apply below_drew1 | refine below_set ?_ (IsS75.ge HI0.out)) | exact HB.out)⟩⟩
          · rw [if_neg c39] at H
            have c39b0 : (t183 == 3) = false := beq_eq_false_iff_ne.mpr c39
            have c39b1 : (t183 != 3) = true := bne_iff_ne.mpr c39
            (first | rw [c39b0] | (simp only [i64_w, i32_w]; rw [c39b0]) | skip)
            have H' := Aside0.mk H
            clear H
            go_wp2
            go_meet
            case rel => exact ⟨_, (false), (x1001_8), (x1002_8), (by first | rfl | (simp; done) | (simp [*]; done)), H', ⟨by have := HJ8.out; first | omega | exact Nat.le_refl _⟩, ⟨by (try simp only [hl1_8]); (with_reducible repeat (first | apply Kd.R_alloc | apply Kd.R_drewN | apply Kd.R_drew)); exact HO_1.out⟩, ⟨by repeat (first | (with_reducible first | exact HI0.out | apply IsS75.alloc | apply IsS75.drewN | apply IsS75.drew | apply IsS75.set_1 | apply IsS75.set_2) | exact HI0.out)⟩, ⟨by repeat (first | (with_reducible first | exact HK.out | apply Kept.alloc | apply Kept.drewN | apply Kept.drew | refine Kept.setCell ?_ (.inl (.inr rfl)) _) | exact HK.out)⟩, ⟨by repeat (first | (with_reducible first | exact HB.out | apply below_alloc | apply pw_below_drewN | apply below_drew1 | refine below_set ?_ (IsS75.ge HI0.out)) | exact HB.out)⟩⟩
        case rest =>
          clear HC38
          try clear c1
          try clear c2
          try clear p2
          try clear q2
          try clear hx2
          try clear hf2
          try clear c3
          try clear p3
          try clear q3
          try clear hx3
          try clear hf3
          try clear c4
          try clear c4b0
          try clear c4b1
          try clear c4b2
          try clear c5
          try clear p6
          try clear c12
          try clear c12b0
          try clear c15
          try clear c18
          try clear c18b0
          try clear c19
          try clear c19b0
          try clear p20
          try clear q20
          try clear hx20
          try clear p21
          try clear q21
          try clear hx21
          try clear hf21
          try clear c29
          try clear c29b0
          try clear c30
          try clear c30b0
          try clear p32
          try clear q32
          try clear hx32
          try clear hf32
          try clear c39
          try clear c39b0
          try clear c39b1
          try clear hx200_0
          try clear hx205_0
          try clear hx21_0
          try clear hx32_0
          try clear p2
          try clear p20
          try clear p200
          try clear p205
          try clear p21
          try clear p3
          try clear p32
          try clear p6
          try clear q2
          try clear q20
          try clear q200
          try clear q205
          try clear q21
          try clear q3
          try clear q32
          obtain ⟨kq, x47_37, x1001_37, x1002_37, rfl, HA, HJ37, HO_1, HI0, HK, HB⟩ := hcut
          cases kq with
          | zero => exact absurd HA.out (by simp [spec_l3Turn.j1])
          | succ kj37 =>
            have H := HA.out
            clear HA
            simp only [spec_l3Turn.j1] at H
            by_cases c42 : x47_37 = true
            · subst c42
              have H1 : (if 0 ≤ (wrap64 ((l1.length : Int) - 1)) then (if (wrap64 ((l1.length : Int) - 1)) ≤ (x1_8.length : Int) then (some ((x1_8.take ((wrap64 ((l1.length : Int) - 1)) : Int).toNat), x1001_37, x1002_37)) else (none)) else (none)) = some (r1, r2, r3) := by rw [if_pos rfl] at H; exact H
              clear H
              have H := H1
              clear H1
              obtain ⟨ji43, hji43⟩ : ∃ j_ : Int, (wrap64 ((l1.length : Int) - 1)) = j_ := ⟨_, rfl⟩
              replace H : (if 0 ≤ (ji43) then (if (ji43) ≤ (x1_8.length : Int) then (some ((x1_8.take ((ji43) : Int).toNat), x1001_37, x1002_37)) else (none)) else (none)) = some (r1, r2, r3) := by first | (rw [hji43] at H; exact H) | (simp only [hji43] at H ⊢; exact H)
              have hji43w : (IntKind.i64.wrap ((l1.length : Int) - 1)) = ji43 := (i64_w _).trans hji43
              by_cases c44 : 0 ≤ (ji43)
              · rw [if_pos c44] at H
                have c44b0 := eq_true c44
                have c44b1 : decide (0 ≤ (ji43)) = true := decide_eq_true c44
                clear c44
                by_cases c45 : (ji43) ≤ (x1_8.length : Int)
                · rw [if_pos c45] at H
                  have c45b0 := eq_true c45
                  have c45b1 : decide ((ji43) ≤ (x1_8.length : Int)) = true := decide_eq_true c45
                  clear c45
                  obtain ⟨y213, hy213⟩ : ∃ y_ : List Int, y_ = (x1_8.take ((ji43) : Int).toNat) := ⟨_, rfl⟩
                  replace H : (some (y213, x1001_37, x1002_37)) = some (r1, r2, r3) := by first | (rw [hy213]; with_reducible exact H) | (have H2_ := (Option.bind_some _ _).symm.trans H; rw [hy213]; with_reducible exact H2_) | (have H2_ := (Option.bind_some _ _).symm.trans H; with_reducible exact H2_) | with_reducible exact H | (rw [hy213]; exact H) | exact H
                  have Ny213 := Aside0.mk hy213
                  clear hy213
                  simp only [Option.some.injEq, Prod.mk.injEq] at H
                  obtain ⟨rfl, rfl, rfl⟩ := H
                  have q46 : ((ji43) : Int) ≤ ((x1_8.length : Int) : Int) := of_decide_eq_true (by first | (with_reducible assumption) | assumption)
                  obtain ⟨i046, hi046, _, hsz46, _⟩ := info_parts info5
                  have hcut46 := cut_to (P := Try.prog) 22 5 .i64 Try.underlying22 hi046 Ao11 x1_8.length co11 (ji43) (of_decide_eq_true (by first | (with_reducible assumption) | assumption)) q46 (Kd.R_reads' HO_1.out).2.1
                  have hjx_ := hji43; rw [hl1_8] at hjx_
                  have hjy_ := hji43w; rw [hl1_8] at hjy_
                  have hr46 := Kd.R_take (m := ((ji43) : Int).toNat) HO_1.out (by omega)
                  have hy46 : y213.length = ((ji43) : Int).toNat := (by rw [Ny213.out, List.length_take]; omega)
                  rw [← Ny213.out] at hr46
                  rw [← hy46] at hr46 hcut46
                  clear hy46 hi046 hsz46 HO_1
                  have HO215 := Aside0.mk hr46
                  clear hr46
                  replace q46 := eq_true q46
                  go_wp2
                  go_ret
                  exact ⟨_, by first | rfl | (simp [errW_none, errW_some] <;> rfl) | (simp only [← hji43]; first | rfl | (simp [errW_none, errW_some] <;> rfl)) | (simp [*, errW_none, errW_some] <;> rfl), by (with_reducible repeat (first | apply Kd.R_alloc | apply Kd.R_drewN | apply Kd.R_drew)); exact HO215.out, by repeat (first | (with_reducible first | exact HI0.out | apply IsS75.alloc | apply IsS75.drewN | apply IsS75.drew | apply IsS75.set_1 | apply IsS75.set_2) | exact HI0.out), by repeat (first | (with_reducible first | exact HB.out | apply below_alloc | apply pw_below_drewN | apply below_drew1 | refine below_set ?_ (IsS75.ge HI0.out)) | exact HB.out), by repeat (first | (with_reducible first | exact HK.out | apply Kept.alloc | apply Kept.drewN | apply Kept.drew | refine Kept.setCell ?_ (.inl (.inr rfl)) _) | exact HK.out)⟩
                · rw [if_neg c45] at H
                  exact absurd H (by simp)
              · rw [if_neg c44] at H
                exact absurd H (by simp)
            · replace c42 := Bool.eq_false_iff.mpr c42
              subst c42
              have H1 : (if t183 = 4 then ((spec_l1Chance.f s0_0 x1001_37 x1002_37 2).bind fun bt216 => (spec_l3Turn.j2 kj37 x1_8 t183 bt216.1 s0_0 bt216.2.1 bt216.2.2)) else (spec_l3Turn.j2 kj37 x1_8 t183 false s0_0 x1001_37 x1002_37)) = some (r1, r2, r3) := by rw [if_neg (show ¬ (false = true) by decide)] at H; exact H
              clear H
              have H := H1
              clear H1
              have HC47 := Aside0.mk H
              clear H
              go_upto_region 12 with (fail)
              go_cut [57] (fun v57 wc => ∃ (kq : Nat) (x57_46 : Bool) (x1001_46 : Int) (x1002_46 : Int), v57 = .bool x57_46 ∧ Aside0 (spec_l3Turn.j2 kq x1_8 t183 x57_46 s0_0 x1001_46 x1002_46 = some (r1, r2, r3)) ∧ Aside0 (kq ≤ kj37) ∧ Aside0 (Kd.R (Kd.int .u8) 5 wc w0.heap.size (fun k_ => (P1_ k_ ∨ w.heap.size ≤ k_)) (.slice Ao11 x1_8.length co11) x1_8) ∧ Aside0 (IsS75 w0 wc g s0_0 x1001_46 x1002_46) ∧ Aside0 (Kept w wc (fun k_ => (P1_ k_) ∨ k_ = g)) ∧ Aside0 (Below w0.heap.size w0 wc))
              case first =>
                have H := HC47.out
                clear HC47
                by_cases c48 : t183 = 4
                · rw [if_pos c48] at H
                  have c48b0 : (t183 == 4) = true := beq_iff_eq.mpr c48
                  have c48b1 : (t183 != 4) = false := bne_eq_false_iff_eq.mpr c48
                  clear c48
                  (first | rw [c48b0] | (simp only [i64_w, i32_w]; rw [c48b0]) | skip)
                  replace H := Option.bind_eq_some_iff.mp H
                  obtain ⟨⟨t216, t217, t218⟩, A490, H⟩ := H
                  replace H : (spec_l3Turn.j2 kj37 x1_8 t183 t216 s0_0 t217 t218) = some (r1, r2, r3) := H
                  have A49 := Aside0.mk A490
                  clear A490
                  have H' := Aside0.mk H
                  clear H
                  go_wp2_with (first | (go_at_call 47; (with_reducible refine (spec_l1Chance.calls g s0_0 x1001_37 x1002_37 2 t216 t217 t218 w0 _ ?side1 ?side2 A49.out).mono ?_); (case side1 => repeat (first | (with_reducible first | exact HI0.out | apply IsS75.alloc | apply IsS75.drewN | apply IsS75.drew | apply IsS75.set_1 | apply IsS75.set_2) | exact HI0.out)); (case side2 => repeat (first | (with_reducible first | exact HB.out | apply below_alloc | apply pw_below_drewN | apply below_drew1 | refine below_set ?_ (IsS75.ge HI0.out)) | exact HB.out)); rintro e w50 ⟨rfl, hi, hb, hk⟩; have n0_ := Aside0.mk (Kd.R_mono (Kd.R_keep (IsS75.apart (show IsS75 w0 _ g s0_0 x1001_37 x1002_37 from by repeat (first | (with_reducible first | exact HI0.out | apply IsS75.alloc | apply IsS75.drewN | apply IsS75.drew | apply IsS75.set_1 | apply IsS75.set_2) | exact HI0.out)) (by (with_reducible repeat (first | apply Kd.R_alloc | apply Kd.R_drewN | apply Kd.R_drew)); exact HO_1.out) (by decide)) hk (fun _ h => h.2)) (fun _ h => h.1)); have n1_ := Aside0.mk (Kept.of_keep (S := (fun k_ => (P1_ k_) ∨ k_ = g)) (by repeat (first | (with_reducible first | exact HK.out | apply Kept.alloc | apply Kept.drewN | apply Kept.drew | refine Kept.setCell ?_ (.inl (.inr rfl)) _) | exact HK.out)) hk (.inl (.inr rfl))); have n2_ := Aside0.mk (hb); have n3_ := Aside0.mk (hi); clear HO_1; clear HK; clear HB; clear HI0; have HO_1 := n0_; have HK := n1_; have HB := n2_; have HI0 := n3_; clear n0_ n1_ n2_ n3_; (try clear hb); (try clear hb2); (try clear hk); (try clear hi)))
                  go_meet
                  case rel => exact ⟨_, (t216), (t217), (t218), (by first | rfl | (simp; done) | (simp [*]; done)), H', ⟨by have := HJ8.out; have := HJ37.out; first | omega | exact Nat.le_refl _⟩, ⟨by (try simp only [hl1_8]); (with_reducible repeat (first | apply Kd.R_alloc | apply Kd.R_drewN | apply Kd.R_drew)); exact HO_1.out⟩, ⟨by repeat (first | (with_reducible first | exact HI0.out | apply IsS75.alloc | apply IsS75.drewN | apply IsS75.drew | apply IsS75.set_1 | apply IsS75.set_2) | exact HI0.out)⟩, ⟨by repeat (first | (with_reducible first | exact HK.out | apply Kept.alloc | apply Kept.drewN | apply Kept.drew | refine Kept.setCell ?_ (.inl (.inr rfl)) _) | exact HK.out)⟩, ⟨by repeat (first | (with_reducible first | exact HB.out | apply below_alloc | apply pw_below_drewN | apply below_drew1 | refine below_set ?_ (IsS75.ge HI0.out)) | exact HB.out)⟩⟩
                · rw [if_neg c48] at H
                  have c48b0 : (t183 == 4) = false := beq_eq_false_iff_ne.mpr c48
                  have c48b1 : (t183 != 4) = true := bne_iff_ne.mpr c48
                  (first | rw [c48b0] | (simp only [i64_w, i32_w]; rw [c48b0]) | skip)
                  have H' := Aside0.mk H
                  clear H
                  go_wp2
                  go_meet
                  case rel => exact ⟨_, (false), (x1001_37), (x1002_37), (by first | rfl | (simp; done) | (simp [*]; done)), H', ⟨by have := HJ8.out; have := HJ37.out; first | omega | exact Nat.le_refl _⟩, ⟨by (try simp only [hl1_8]); (with_reducible repeat (first | apply Kd.R_alloc | apply Kd.R_drewN | apply Kd.R_drew)); exact HO_1.out⟩, ⟨by repeat (first | (with_reducible first | exact HI0.out | apply IsS75.alloc | apply IsS75.drewN | apply IsS75.drew | apply IsS75.set_1 | apply IsS75.set_2) | exact HI0.out)⟩, ⟨by repeat (first | (with_reducible first | exact HK.out | apply Kept.alloc | apply Kept.drewN | apply Kept.drew | refine Kept.setCell ?_ (.inl (.inr rfl)) _) | exact HK.out)⟩, ⟨by repeat (first | (with_reducible first | exact HB.out | apply below_alloc | apply pw_below_drewN | apply below_drew1 | refine below_set ?_ (IsS75.ge HI0.out)) | exact HB.out)⟩⟩
              case rest =>
                clear HC47
                try clear c1
                try clear c2
                try clear p2
                try clear q2
                try clear hx2
                try clear hf2
                try clear c3
                try clear p3
                try clear q3
                try clear hx3
                try clear hf3
                try clear c4
                try clear c4b0
                try clear c4b1
                try clear c4b2
                try clear q4
                try clear c5
                try clear p6
                try clear c12
                try clear c12b0
                try clear c15
                try clear c18
                try clear c18b0
                try clear c19
                try clear c19b0
                try clear p20
                try clear q20
                try clear hx20
                try clear p21
                try clear q21
                try clear hx21
                try clear hf21
                try clear c29
                try clear c29b0
                try clear c30
                try clear c30b0
                try clear p32
                try clear q32
                try clear hx32
                try clear hf32
                try clear c39
                try clear c39b0
                try clear c39b1
                try clear c42
                try clear c44
                try clear c44b0
                try clear c44b1
                try clear c45
                try clear c45b0
                try clear c45b1
                try clear q46
                try clear c47
                try clear c48
                try clear c48b0
                try clear c48b1
                try clear hx200_0
                try clear hx205_0
                try clear hx21_0
                try clear hx32_0
                try clear p2
                try clear p20
                try clear p200
                try clear p205
                try clear p21
                try clear p3
                try clear p32
                try clear p6
                try clear q2
                try clear q20
                try clear q200
                try clear q205
                try clear q21
                try clear q3
                try clear q32
                try clear q46
                obtain ⟨kq, x57_46, x1001_46, x1002_46, rfl, HA, HJ46, HO_1, HI0, HK, HB⟩ := hcut
                cases kq with
                | zero => exact absurd HA.out (by simp [spec_l3Turn.j2])
                | succ kj46 =>
                  have H := HA.out
                  clear HA
                  simp only [spec_l3Turn.j2] at H
                  by_cases c51 : x57_46 = true
                  · subst c51
                    have H1 : (if x1_8.length < 140737488355328 then (some ((x1_8 ++ [0]), x1001_46, x1002_46)) else (none)) = some (r1, r2, r3) := by rw [if_pos rfl] at H; exact H
                    clear H
                    have H := H1
                    clear H1
                    by_cases c52 : x1_8.length < 140737488355328
                    · rw [if_pos c52] at H
                      have LMc52 := Aside0.mk c52
                      clear c52
                      obtain ⟨y219, hy219⟩ : ∃ y_ : List Int, y_ = (x1_8 ++ [0]) := ⟨_, rfl⟩
                      replace H : (some (y219, x1001_46, x1002_46)) = some (r1, r2, r3) := by first | (rw [hy219]; with_reducible exact H) | (have H2_ := (Option.bind_some _ _).symm.trans H; rw [hy219]; with_reducible exact H2_) | (have H2_ := (Option.bind_some _ _).symm.trans H; with_reducible exact H2_) | with_reducible exact H | (rw [hy219]; exact H) | exact H
                      have Ny219 := Aside0.mk hy219
                      clear hy219
                      simp only [Option.some.injEq, Prod.mk.injEq] at H
                      obtain ⟨rfl, rfl, rfl⟩ := H
                      go_wp2_with (first | ((with_reducible refine gate_builtin (b := .append) (xs := #[.tmp 58, .tmp 59]) rfl ?_); at_builtin; refine Kd.R_append (Kd.int .u8) (w0 := w0) w0.heap.size rfl (.tmp 58) (.tmp 59) 22 5 (.int .u8 0) 1 rfl Try.underlying22 info5 rfl (by decide) (by omega) (.slice Ao11 x1_8.length co11) x1_8 0 [.int .u8 0] (fun k_ => (P1_ k_ ∨ w.heap.size ≤ k_)) (fun _ => False) rfl rfl ?aP (fun _ hk => hk.elim) ?aF ?aO ?aB ?aS ?aL ?_; (case aP => exact rfl); (case aB => exact (by repeat (first | (with_reducible first | exact HB.out | apply below_alloc | apply pw_below_drewN | apply below_drew1 | refine below_set ?_ (IsS75.ge HI0.out)) | exact HB.out))); (case aF => exact (fun k_ hk => (.inr (Nat.le_trans (by first | exact HK.out.1 | exact (show Kept w _ (fun k_ => (P1_ k_) ∨ k_ = g) from by repeat (first | (with_reducible first | exact HK.out | apply Kept.alloc | apply Kept.drewN | apply Kept.drew | refine Kept.setCell ?_ (.inl (.inr rfl)) _) | exact HK.out)).1) hk)))); (case aO => exact (by (with_reducible repeat (first | apply Kd.R_alloc | apply Kd.R_drewN | apply Kd.R_drew)); exact HO_1.out)); (case aS => exact (below_size (by repeat (first | (with_reducible first | exact HB.out | apply below_alloc | apply pw_below_drewN | apply below_drew1 | refine below_set ?_ (IsS75.ge HI0.out)) | exact HB.out)))); (case aL => have := LMc52.out; omega); intro v220 w53 ho hb hg hat; rw [← Ny219.out] at ho; have n0_ := Aside0.mk (IsS75.grown (by repeat (first | (with_reducible first | exact HI0.out | apply IsS75.alloc | apply IsS75.drewN | apply IsS75.drew | apply IsS75.set_1 | apply IsS75.set_2) | exact HI0.out)) hg (IsS75.own_ne HI0.out HO_1.out (by decide))); have n1_ := Aside0.mk (hb); have n2_ := Aside0.mk (Kept.of_grown (S := (fun k_ => (P1_ k_) ∨ k_ = g)) hg (by repeat (first | (with_reducible first | exact HK.out | apply Kept.alloc | apply Kept.drewN | apply Kept.drew | refine Kept.setCell ?_ (.inl (.inr rfl)) _) | exact HK.out)) (fun k_ e_ => Or.imp_left Or.inl ((HO_1.out.1 k_ e_)))); have n3_ := Aside0.mk (ho); clear HI0; clear HB; clear HK; clear HO_1; have HI0 := n0_; have HB := n1_; have HK := n2_; have HO221 := n3_; clear n0_ n1_ n2_ n3_; clear ho hb hg hat))
                      go_ret
                      exact ⟨_, by first | rfl | (simp [errW_none, errW_some] <;> rfl) | (simp [*, errW_none, errW_some] <;> rfl), by (with_reducible repeat (first | apply Kd.R_alloc | apply Kd.R_drewN | apply Kd.R_drew)); exact HO221.out, by repeat (first | (with_reducible first | exact HI0.out | apply IsS75.alloc | apply IsS75.drewN | apply IsS75.drew | apply IsS75.set_1 | apply IsS75.set_2) | exact HI0.out), by repeat (first | (with_reducible first | exact HB.out | apply below_alloc | apply pw_below_drewN | apply below_drew1 | refine below_set ?_ (IsS75.ge HI0.out)) | exact HB.out), by repeat (first | (with_reducible first | exact HK.out | apply Kept.alloc | apply Kept.drewN | apply Kept.drew | refine Kept.setCell ?_ (.inl (.inr rfl)) _) | exact HK.out)⟩
                    · rw [if_neg c52] at H
                      exact absurd H (by simp)
                  · replace c51 := Bool.eq_false_iff.mpr c51
                    subst c51
                    have H1 : (if t183 = 5 then ((spec_l1Chance.f s0_0 x1001_46 x1002_46 3).bind fun bt222 => (if bt222.1 = true then ((spec_l1Fill.f kj46 s0_0 bt222.2.1 bt222.2.2).bind fun bt225 => (some (bt225.1, bt225.2.1, bt225.2.2))) else (some (x1_8, bt222.2.1, bt222.2.2)))) else (some (x1_8, x1001_46, x1002_46))) = some (r1, r2, r3) := by rw [if_neg (show ¬ (false = true) by decide)] at H; exact H
                    clear H
                    have H := H1
                    clear H1
                    by_cases c54 : t183 = 5
                    · rw [if_pos c54] at H
                      have c54b0 : (t183 == 5) = true := beq_iff_eq.mpr c54
                      have c54b1 : (t183 != 5) = false := bne_eq_false_iff_eq.mpr c54
                      clear c54
                      replace H := Option.bind_eq_some_iff.mp H
                      obtain ⟨⟨t222, t223, t224⟩, A550, H⟩ := H
                      replace H : (if t222 = true then ((spec_l1Fill.f kj46 s0_0 t223 t224).bind fun bt225 => (some (bt225.1, bt225.2.1, bt225.2.2))) else (some (x1_8, t223, t224))) = some (r1, r2, r3) := H
                      have A55 := Aside0.mk A550
                      clear A550
                      by_cases c56 : t222 = true
                      · subst c56
                        have H1 : ((spec_l1Fill.f kj46 s0_0 t223 t224).bind fun bt225 => (some (bt225.1, bt225.2.1, bt225.2.2))) = some (r1, r2, r3) := by rw [if_pos rfl] at H; exact H
                        clear H
                        have H := H1
                        clear H1
                        replace H := Option.bind_eq_some_iff.mp H
                        obtain ⟨⟨t225, t228, t229⟩, A570, H⟩ := H
                        replace H : (some (t225, t228, t229)) = some (r1, r2, r3) := H
                        have A57 := Aside0.mk A570
                        clear A570
                        simp only [Option.some.injEq, Prod.mk.injEq] at H
                        obtain ⟨rfl, rfl, rfl⟩ := H
                        go_wp2_with (first | (go_at_call 47; (with_reducible refine (spec_l1Chance.calls g s0_0 x1001_46 x1002_46 3 true t223 t224 w0 _ ?side1 ?side2 A55.out).mono ?_); (case side1 => repeat (first | (with_reducible first | exact HI0.out | apply IsS75.alloc | apply IsS75.drewN | apply IsS75.drew | apply IsS75.set_1 | apply IsS75.set_2) | exact HI0.out)); (case side2 => repeat (first | (with_reducible first | exact HB.out | apply below_alloc | apply pw_below_drewN | apply below_drew1 | refine below_set ?_ (IsS75.ge HI0.out)) | exact HB.out)); rintro e w58 ⟨rfl, hi, hb, hk⟩; have n0_ := Aside0.mk (Kd.R_mono (Kd.R_keep (IsS75.apart (show IsS75 w0 _ g s0_0 x1001_46 x1002_46 from by repeat (first | (with_reducible first | exact HI0.out | apply IsS75.alloc | apply IsS75.drewN | apply IsS75.drew | apply IsS75.set_1 | apply IsS75.set_2) | exact HI0.out)) (by (with_reducible repeat (first | apply Kd.R_alloc | apply Kd.R_drewN | apply Kd.R_drew)); exact HO_1.out) (by decide)) hk (fun _ h => h.2)) (fun _ h => h.1)); have n1_ := Aside0.mk (Kept.of_keep (S := (fun k_ => (P1_ k_) ∨ k_ = g)) (by repeat (first | (with_reducible first | exact HK.out | apply Kept.alloc | apply Kept.drewN | apply Kept.drew | refine Kept.setCell ?_ (.inl (.inr rfl)) _) | exact HK.out)) hk (.inl (.inr rfl))); have n2_ := Aside0.mk (hb); have n3_ := Aside0.mk (hi); clear HO_1; clear HK; clear HB; clear HI0; have HO_1 := n0_; have HK := n1_; have HB := n2_; have HI0 := n3_; clear n0_ n1_ n2_ n3_; (try clear hb); (try clear hb2); (try clear hk); (try clear hi)) | ((with_reducible refine gate_callee (f := 54) rfl ?_); refine goesL_ (some 68) rfl rfl Try.func54 (by kernel_rfl) rfl #[.pointer (some ⟨g, 0, none⟩)] rfl (by (try simp only [List.map_toArray, List.map_cons, List.map_nil]); first | done | rfl | (simp only [List.length_drop, List.length_take]; rfl)) ?_; (with_reducible refine (spec_l1Fill.calls kj46 g s0_0 t223 t224 t225 t228 t229 w0 _ ?side1 ?side2 A57.out).mono ?_); (case side1 => repeat (first | (with_reducible first | exact HI0.out | apply IsS75.alloc | apply IsS75.drewN | apply IsS75.drew | apply IsS75.set_1 | apply IsS75.set_2) | exact HI0.out)); (case side2 => repeat (first | (with_reducible first | exact HB.out | apply below_alloc | apply pw_below_drewN | apply below_drew1 | refine below_set ?_ (IsS75.ge HI0.out)) | exact HB.out)); rintro e w59 ⟨v226, rfl, ho0, hi, hb, hk⟩; refine ⟨_, rfl, ?_⟩; have n0_ := Aside0.mk (Kd.R_mono (Kd.R_told (Kd.R_oldK (IsS75.apart (show IsS75 w0 _ g s0_0 t223 t224 from by repeat (first | (with_reducible first | exact HI0.out | apply IsS75.alloc | apply IsS75.drewN | apply IsS75.drew | apply IsS75.set_1 | apply IsS75.set_2) | exact HI0.out)) (by (with_reducible repeat (first | apply Kd.R_alloc | apply Kd.R_drewN | apply Kd.R_drew)); exact HO_1.out) (by decide)) hk) (Kd.R_base ho0)) (fun _ h_ => h_.1)); have n1_ := Aside0.mk (Kd.R_lower (Kd.R_new' (Kd.R_newM (M := fun k_ => (P1_ k_ ∨ w.heap.size ≤ k_)) ho0 (by first | exact HK.out.1 | exact (show Kept w _ (fun k_ => (P1_ k_) ∨ k_ = g) from by repeat (first | (with_reducible first | exact HK.out | apply Kept.alloc | apply Kept.drewN | apply Kept.drew | refine Kept.setCell ?_ (.inl (.inr rfl)) _) | exact HK.out)).1) (fun k_ h_ => .inr h_)) (Kd.R_lt (by (with_reducible repeat (first | apply Kd.R_alloc | apply Kd.R_drewN | apply Kd.R_drew)); exact HO_1.out))) (below_size (by repeat (first | (with_reducible first | exact HB.out | apply below_alloc | apply pw_below_drewN | apply below_drew1 | refine below_set ?_ (IsS75.ge HI0.out)) | exact HB.out)))); have n2_ := Aside0.mk (Kept.of_keep (S := (fun k_ => (P1_ k_) ∨ k_ = g)) (by repeat (first | (with_reducible first | exact HK.out | apply Kept.alloc | apply Kept.drewN | apply Kept.drew | refine Kept.setCell ?_ (.inl (.inr rfl)) _) | exact HK.out)) hk (.inl (.inr rfl))); have n3_ := Aside0.mk (hb); have n4_ := Aside0.mk (hi); clear HO_1; clear HK; clear HB; clear HI0; have HO_1 := n0_; have HO227 := n1_; have HK := n2_; have HB := n3_; have HI0 := n4_; clear n0_ n1_ n2_ n3_ n4_; (try clear hb); (try clear hb2); (try clear hk); (try clear hi); (try clear ho0)))
                        go_ret
                        exact ⟨_, by first | rfl | (simp [errW_none, errW_some] <;> rfl) | (simp [*, errW_none, errW_some] <;> rfl), by (with_reducible repeat (first | apply Kd.R_alloc | apply Kd.R_drewN | apply Kd.R_drew)); exact Kd.R_mono HO227.out (fun _ hk => hk.1.1), by repeat (first | (with_reducible first | exact HI0.out | apply IsS75.alloc | apply IsS75.drewN | apply IsS75.drew | apply IsS75.set_1 | apply IsS75.set_2) | exact HI0.out), by repeat (first | (with_reducible first | exact HB.out | apply below_alloc | apply pw_below_drewN | apply below_drew1 | refine below_set ?_ (IsS75.ge HI0.out)) | exact HB.out), by repeat (first | (with_reducible first | exact HK.out | apply Kept.alloc | apply Kept.drewN | apply Kept.drew | refine Kept.setCell ?_ (.inl (.inr rfl)) _) | exact HK.out)⟩
                      · replace c56 := Bool.eq_false_iff.mpr c56
                        subst c56
                        have H1 : (some (x1_8, t223, t224)) = some (r1, r2, r3) := by rw [if_neg (show ¬ (false = true) by decide)] at H; exact H
                        clear H
                        have H := H1
                        clear H1
                        simp only [Option.some.injEq, Prod.mk.injEq] at H
                        obtain ⟨rfl, rfl, rfl⟩ := H
                        go_wp2_with (first | (go_at_call 47; (with_reducible refine (spec_l1Chance.calls g s0_0 x1001_46 x1002_46 3 false t223 t224 w0 _ ?side1 ?side2 A55.out).mono ?_); (case side1 => repeat (first | (with_reducible first | exact HI0.out | apply IsS75.alloc | apply IsS75.drewN | apply IsS75.drew | apply IsS75.set_1 | apply IsS75.set_2) | exact HI0.out)); (case side2 => repeat (first | (with_reducible first | exact HB.out | apply below_alloc | apply pw_below_drewN | apply below_drew1 | refine below_set ?_ (IsS75.ge HI0.out)) | exact HB.out)); rintro e w60 ⟨rfl, hi, hb, hk⟩; have n0_ := Aside0.mk (Kd.R_mono (Kd.R_keep (IsS75.apart (show IsS75 w0 _ g s0_0 x1001_46 x1002_46 from by repeat (first | (with_reducible first | exact HI0.out | apply IsS75.alloc | apply IsS75.drewN | apply IsS75.drew | apply IsS75.set_1 | apply IsS75.set_2) | exact HI0.out)) (by (with_reducible repeat (first | apply Kd.R_alloc | apply Kd.R_drewN | apply Kd.R_drew)); exact HO_1.out) (by decide)) hk (fun _ h => h.2)) (fun _ h => h.1)); have n1_ := Aside0.mk (Kept.of_keep (S := (fun k_ => (P1_ k_) ∨ k_ = g)) (by repeat (first | (with_reducible first | exact HK.out | apply Kept.alloc | apply Kept.drewN | apply Kept.drew | refine Kept.setCell ?_ (.inl (.inr rfl)) _) | exact HK.out)) hk (.inl (.inr rfl))); have n2_ := Aside0.mk (hb); have n3_ := Aside0.mk (hi); clear HO_1; clear HK; clear HB; clear HI0; have HO_1 := n0_; have HK := n1_; have HB := n2_; have HI0 := n3_; clear n0_ n1_ n2_ n3_; (try clear hb); (try clear hb2); (try clear hk); (try clear hi)))
                        go_ret
                        exact ⟨_, by first | rfl | (simp [errW_none, errW_some] <;> rfl) | (simp [*, errW_none, errW_some] <;> rfl), by (with_reducible repeat (first | apply Kd.R_alloc | apply Kd.R_drewN | apply Kd.R_drew)); exact HO_1.out, by repeat (first | (with_reducible first | exact HI0.out | apply IsS75.alloc | apply IsS75.drewN | apply IsS75.drew | apply IsS75.set_1 | apply IsS75.set_2) | exact HI0.out), by repeat (first | (with_reducible first | exact HB.out | apply below_alloc | apply pw_below_drewN | apply below_drew1 | refine below_set ?_ (IsS75.ge HI0.out)) | exact HB.out), by repeat (first | (with_reducible first | exact HK.out | apply Kept.alloc | apply Kept.drewN | apply Kept.drew | refine Kept.setCell ?_ (.inl (.inr rfl)) _) | exact HK.out)⟩
                    · rw [if_neg c54] at H
                      have c54b0 : (t183 == 5) = false := beq_eq_false_iff_ne.mpr c54
                      have c54b1 : (t183 != 5) = true := bne_iff_ne.mpr c54
                      simp only [Option.some.injEq, Prod.mk.injEq] at H
                      obtain ⟨rfl, rfl, rfl⟩ := H
                      go_wp2
                      go_ret
                      exact ⟨_, by first | rfl | (simp [errW_none, errW_some] <;> rfl) | (simp [*, errW_none, errW_some] <;> rfl), by (with_reducible repeat (first | apply Kd.R_alloc | apply Kd.R_drewN | apply Kd.R_drew)); exact HO_1.out, by repeat (first | (with_reducible first | exact HI0.out | apply IsS75.alloc | apply IsS75.drewN | apply IsS75.drew | apply IsS75.set_1 | apply IsS75.set_2) | exact HI0.out), by repeat (first | (with_reducible first | exact HB.out | apply below_alloc | apply pw_below_drewN | apply below_drew1 | refine below_set ?_ (IsS75.ge HI0.out)) | exact HB.out), by repeat (first | (with_reducible first | exact HK.out | apply Kept.alloc | apply Kept.drewN | apply Kept.drew | refine Kept.setCell ?_ (.inl (.inr rfl)) _) | exact HK.out)⟩
theorem IsS75.apartM {w0 W : World} {g : Nat} {f0 : List Int} {f1 : Int} {f2 : Int} {base : Nat} {ok : Nat → Prop} {v : Value} {xs : List Int} (h : IsS75 w0 W g f0 f1 f2) (ho : MK.R 5 W base ok v xs) (ht : 5 ≠ 75) : MK.R 5 W base (fun k => ok k ∧ k ≠ g) v xs := by
  obtain ⟨A0, c0, hb, hg, hr0⟩ := h
  exact MK.R_types ho hb ht
theorem IsS75.own_neM {w0 W : World} {g : Nat} {f0 : List Int} {f1 : Int} {f2 : Int} {base : Nat} {ok : Nat → Prop} {v : Value} {xs : List Int} (h : IsS75 w0 W g f0 f1 f2) (ho : MK.R 5 W base ok v xs) (ht : 5 ≠ 75) : some g ≠ v.ownBlock := by
  obtain ⟨A0, c0, hb, hg, hr0⟩ := h
  exact MK.R_ne ho hb ht
set_option maxHeartbeats 8000000 in
set_option maxRecDepth 100000 in
theorem spec_l3Turn.callsM (k : Nat) (g : Nat) (s0_0 : List Int) (s0_1 : Int) (s0_2 : Int) (P1_ : Nat → Prop) (u9000_ : Value) (l1 : List Int) (r1 : List Int) (r2 : Int) (r3 : Int) (w0 w : World) (hI : IsS75 w0 w g s0_0 s0_1 s0_2) (hB : Below w0.heap.size w0 w) (ho1 : MK.R 5 w w0.heap.size P1_ u9000_ l1) (h : spec_l3Turn.f k s0_0 s0_1 s0_2 l1 = some (r1, r2, r3)) :
    Calls Try.prog 48 #[.pointer (some ⟨g, 0, none⟩), u9000_] w fun e w' => ∃ v0_ : Value, e = .returned (v0_) ∧ MK.R 5 w' w0.heap.size (fun k_ => (P1_ k_ ∨ w.heap.size ≤ k_)) v0_ r1 ∧ IsS75 w0 w' g s0_0 r2 r3 ∧ Below w0.heap.size w0 w' ∧ Kept w w' (fun k_ => (P1_ k_) ∨ k_ = g) := by
  have HO1 := Aside0.mk (show MK.R 5 w w0.heap.size (fun k_ => (P1_ k_ ∨ w.heap.size ≤ k_)) u9000_ l1 from MK.R_mono ho1 (fun k_ hk => (.inl hk)))
  have HI0 := Aside0.mk hI
  have HL := Aside0.mk hB.size
  clear hI
  have HK := Aside0.mk (Kept.refl w (fun k_ => (P1_ k_) ∨ k_ = g))
  have HW0 := Aside0.mk hB.size
  have HB := Aside0.mk hB
  clear hB
  have H : ((spec_l1Next.f s0_0 s0_1 s0_2 8).bind fun bt183 => (if (l1.length : Int) = 0 then ((spec_l1Fill.f k s0_0 bt183.2.1 bt183.2.2).bind fun bt186 => (some (bt186.1, bt186.2.1, bt186.2.2))) else (if bt183.1 < 3 then ((spec_l1Next.f s0_0 bt183.2.1 bt183.2.2 (l1.length : Int)).bind fun bt191 => ((spec_l1Chance.f s0_0 bt191.2.1 bt191.2.2 2).bind fun bt194 => (if bt194.1 = true then ((spec_l1Next.f s0_0 bt194.2.1 bt194.2.2 16).bind fun bt197 => (if 0 ≤ (Int.tmod bt197.1 (l1.length : Int)) then (if (Int.tmod bt197.1 (l1.length : Int)) < (l1.length : Int) then ((spec_l1Next.f s0_0 bt197.2.1 bt197.2.2 255).bind fun bt201 => (spec_l3Turn.j0 k (l1.set ((Int.tmod bt197.1 (l1.length : Int)) : Int).toNat (Go.bits .xor .u8 (rd l1 (Int.tmod bt197.1 (l1.length : Int))) ((wrap64 (1 + bt201.1)) % 256))) bt183.1 (l1.length : Int) s0_0 bt201.2.1 bt201.2.2)) else (none)) else (none))) else (if 0 ≤ (Int.tmod bt191.1 (l1.length : Int)) then (if (Int.tmod bt191.1 (l1.length : Int)) < (l1.length : Int) then ((spec_l1Next.f s0_0 bt194.2.1 bt194.2.2 255).bind fun bt206 => (spec_l3Turn.j0 k (l1.set ((Int.tmod bt191.1 (l1.length : Int)) : Int).toNat (Go.bits .xor .u8 (rd l1 (Int.tmod bt191.1 (l1.length : Int))) ((wrap64 (1 + bt206.1)) % 256))) bt183.1 (l1.length : Int) s0_0 bt206.2.1 bt206.2.2)) else (none)) else (none))))) else (spec_l3Turn.j0 k l1 bt183.1 (l1.length : Int) s0_0 bt183.2.1 bt183.2.2)))) = some (r1, r2, r3) := h
  clear h
  replace H := Option.bind_eq_some_iff.mp H
  obtain ⟨⟨t183, t184, t185⟩, A30, H⟩ := H
  replace H : (if (l1.length : Int) = 0 then ((spec_l1Fill.f k s0_0 t184 t185).bind fun bt186 => (some (bt186.1, bt186.2.1, bt186.2.2))) else (if t183 < 3 then ((spec_l1Next.f s0_0 t184 t185 (l1.length : Int)).bind fun bt191 => ((spec_l1Chance.f s0_0 bt191.2.1 bt191.2.2 2).bind fun bt194 => (if bt194.1 = true then ((spec_l1Next.f s0_0 bt194.2.1 bt194.2.2 16).bind fun bt197 => (if 0 ≤ (Int.tmod bt197.1 (l1.length : Int)) then (if (Int.tmod bt197.1 (l1.length : Int)) < (l1.length : Int) then ((spec_l1Next.f s0_0 bt197.2.1 bt197.2.2 255).bind fun bt201 => (spec_l3Turn.j0 k (l1.set ((Int.tmod bt197.1 (l1.length : Int)) : Int).toNat (Go.bits .xor .u8 (rd l1 (Int.tmod bt197.1 (l1.length : Int))) ((wrap64 (1 + bt201.1)) % 256))) t183 (l1.length : Int) s0_0 bt201.2.1 bt201.2.2)) else (none)) else (none))) else (if 0 ≤ (Int.tmod bt191.1 (l1.length : Int)) then (if (Int.tmod bt191.1 (l1.length : Int)) < (l1.length : Int) then ((spec_l1Next.f s0_0 bt194.2.1 bt194.2.2 255).bind fun bt206 => (spec_l3Turn.j0 k (l1.set ((Int.tmod bt191.1 (l1.length : Int)) : Int).toNat (Go.bits .xor .u8 (rd l1 (Int.tmod bt191.1 (l1.length : Int))) ((wrap64 (1 + bt206.1)) % 256))) t183 (l1.length : Int) s0_0 bt206.2.1 bt206.2.2)) else (none)) else (none))))) else (spec_l3Turn.j0 k l1 t183 (l1.length : Int) s0_0 t184 t185))) = some (r1, r2, r3) := H
  have A3 := Aside0.mk A30
  clear A30
  by_cases c4 : (l1.length : Int) = 0
  · rw [if_pos c4] at H
    have c4b0 : ((l1.length : Int) == 0) = true := beq_iff_eq.mpr c4
    have c4b1 : ((l1.length : Int) != 0) = false := bne_eq_false_iff_eq.mpr c4
    clear c4
    replace H := Option.bind_eq_some_iff.mp H
    obtain ⟨⟨t186, t189, t190⟩, A50, H⟩ := H
    replace H : (some (t186, t189, t190)) = some (r1, r2, r3) := H
    have A5 := Aside0.mk A50
    clear A50
    simp only [Option.some.injEq, Prod.mk.injEq] at H
    obtain ⟨rfl, rfl, rfl⟩ := H
    go_enter Try.func48, Try.ntmps48
    go_wp2_with (first | ((with_reducible refine gate_callee (f := 45) rfl ?_); refine goesL_ (some 9) rfl rfl Try.func45 (by kernel_rfl) rfl #[.pointer (some ⟨g, 0, none⟩), .int .i64 8] rfl (by (try simp only [List.map_toArray, List.map_cons, List.map_nil]); first | done | rfl | (simp only [List.length_drop, List.length_take]; rfl)) ?_; (with_reducible refine (spec_l1Next.calls g s0_0 s0_1 s0_2 8 t183 t184 t185 w0 _ ?side1 ?side2 A3.out).mono ?_); (case side1 => repeat (first | (with_reducible first | exact HI0.out | apply IsS75.alloc | apply IsS75.drewN | apply IsS75.drew | apply IsS75.set_1 | apply IsS75.set_2) | exact HI0.out)); (case side2 => repeat (first | (with_reducible first | exact HB.out | apply below_alloc | apply pw_below_drewN | apply below_drew1 | refine below_set ?_ (IsS75.ge HI0.out)) | exact HB.out)); rintro e w6 ⟨rfl, hi, hb, hk⟩; refine ⟨_, rfl, ?_⟩; have n0_ := Aside0.mk (MK.R_mono (MK.R_keep (IsS75.apartM (show IsS75 w0 _ g s0_0 s0_1 s0_2 from by repeat (first | (with_reducible first | exact HI0.out | apply IsS75.alloc | apply IsS75.drewN | apply IsS75.drew | apply IsS75.set_1 | apply IsS75.set_2) | exact HI0.out)) (by (with_reducible repeat (first | apply MK.R_alloc | apply MK.R_drewN | apply MK.R_drew)); exact HO1.out) (by decide)) hk (fun _ h => h.2)) (fun _ h => h.1)); have n1_ := Aside0.mk (Kept.of_keep (S := (fun k_ => (P1_ k_) ∨ k_ = g)) (by repeat (first | (with_reducible first | exact HK.out | apply Kept.alloc | apply Kept.drewN | apply Kept.drew | refine Kept.setCell ?_ (.inl (.inr rfl)) _) | exact HK.out)) hk (.inl (.inr rfl))); have n2_ := Aside0.mk (hb); have n3_ := Aside0.mk (hi); clear HO1; clear HK; clear HB; clear HI0; have HO1 := n0_; have HK := n1_; have HB := n2_; have HI0 := n3_; clear n0_ n1_ n2_ n3_; (try clear hb); (try clear hb2); (try clear hk); (try clear hi); obtain ⟨Ao7, co7, eo7⟩ := MK.R_slice HO1.out; subst eo7) | ((with_reducible refine gate_callee (f := 54) rfl ?_); refine goesL_ (some 14) rfl rfl Try.func54 (by kernel_rfl) rfl #[.pointer (some ⟨g, 0, none⟩)] rfl (by (try simp only [List.map_toArray, List.map_cons, List.map_nil]); first | done | rfl | (simp only [List.length_drop, List.length_take]; rfl)) ?_; (with_reducible refine (spec_l1Fill.calls k g s0_0 t184 t185 t186 t189 t190 w0 _ ?side1 ?side2 A5.out).mono ?_); (case side1 => repeat (first | (with_reducible first | exact HI0.out | apply IsS75.alloc | apply IsS75.drewN | apply IsS75.drew | apply IsS75.set_1 | apply IsS75.set_2) | exact HI0.out)); (case side2 => repeat (first | (with_reducible first | exact HB.out | apply below_alloc | apply pw_below_drewN | apply below_drew1 | refine below_set ?_ (IsS75.ge HI0.out)) | exact HB.out)); rintro e w8 ⟨v187, rfl, ho0, hi, hb, hk⟩; refine ⟨_, rfl, ?_⟩; have n0_ := Aside0.mk (MK.R_mono (MK.R_told (MK.R_oldK (IsS75.apartM (show IsS75 w0 _ g s0_0 t184 t185 from by repeat (first | (with_reducible first | exact HI0.out | apply IsS75.alloc | apply IsS75.drewN | apply IsS75.drew | apply IsS75.set_1 | apply IsS75.set_2) | exact HI0.out)) (by (with_reducible repeat (first | apply MK.R_alloc | apply MK.R_drewN | apply MK.R_drew)); exact HO1.out) (by decide)) hk) (Kd.R_base ho0)) (fun _ h_ => h_.1)); have n1_ := Aside0.mk (MK.of_R (Kd.R_lower (Kd.R_new' (Kd.R_newM (M := fun k_ => (P1_ k_ ∨ w.heap.size ≤ k_)) ho0 (by first | exact HK.out.1 | exact (show Kept w _ (fun k_ => (P1_ k_) ∨ k_ = g) from by repeat (first | (with_reducible first | exact HK.out | apply Kept.alloc | apply Kept.drewN | apply Kept.drew | refine Kept.setCell ?_ (.inl (.inr rfl)) _) | exact HK.out)).1) (fun k_ h_ => .inr h_)) (MK.R_lt (by (with_reducible repeat (first | apply MK.R_alloc | apply MK.R_drewN | apply MK.R_drew)); exact HO1.out))) (below_size (by repeat (first | (with_reducible first | exact HB.out | apply below_alloc | apply pw_below_drewN | apply below_drew1 | refine below_set ?_ (IsS75.ge HI0.out)) | exact HB.out))))); have n2_ := Aside0.mk (Kept.of_keep (S := (fun k_ => (P1_ k_) ∨ k_ = g)) (by repeat (first | (with_reducible first | exact HK.out | apply Kept.alloc | apply Kept.drewN | apply Kept.drew | refine Kept.setCell ?_ (.inl (.inr rfl)) _) | exact HK.out)) hk (.inl (.inr rfl))); have n3_ := Aside0.mk (hb); have n4_ := Aside0.mk (hi); clear HO1; clear HK; clear HB; clear HI0; have HO1 := n0_; have HO188 := n1_; have HK := n2_; have HB := n3_; have HI0 := n4_; clear n0_ n1_ n2_ n3_ n4_; (try clear hb); (try clear hb2); (try clear hk); (try clear hi); (try clear ho0)))
    go_ret
    exact ⟨_, by first | rfl | (simp [errW_none, errW_some] <;> rfl) | (simp [*, errW_none, errW_some] <;> rfl), by (with_reducible repeat (first | apply MK.R_alloc | apply MK.R_drewN | apply MK.R_drew)); exact MK.R_mono HO188.out (fun _ hk => hk.1.1), by repeat (first | (with_reducible first | exact HI0.out | apply IsS75.alloc | apply IsS75.drewN | apply IsS75.drew | apply IsS75.set_1 | apply IsS75.set_2) | exact HI0.out), by repeat (first | (with_reducible first | exact HB.out | apply below_alloc | apply pw_below_drewN | apply below_drew1 | refine below_set ?_ (IsS75.ge HI0.out)) | exact HB.out), by repeat (first | (with_reducible first | exact HK.out | apply Kept.alloc | apply Kept.drewN | apply Kept.drew | refine Kept.setCell ?_ (.inl (.inr rfl)) _) | exact HK.out)⟩
  · rw [if_neg c4] at H
    have c4b0 : ((l1.length : Int) == 0) = false := beq_eq_false_iff_ne.mpr c4
    have c4b1 : ((l1.length : Int) != 0) = true := bne_iff_ne.mpr c4
    have c4b2 : ¬ (l1 = []) := fun h_ => c4 (by rw [h_]; rfl)
    have HNE := Aside0.mk (show ¬ (l1 = []) by assumption)
    have HC9 := Aside0.mk H
    clear H
    go_enter Try.func48, Try.ntmps48
    go_upto_if 18 with (first | ((with_reducible refine gate_callee (f := 45) rfl ?_); refine goesL_ (some 9) rfl rfl Try.func45 (by kernel_rfl) rfl #[.pointer (some ⟨g, 0, none⟩), .int .i64 8] rfl (by (try simp only [List.map_toArray, List.map_cons, List.map_nil]); first | done | rfl | (simp only [List.length_drop, List.length_take]; rfl)) ?_; (with_reducible refine (spec_l1Next.calls g s0_0 s0_1 s0_2 8 t183 t184 t185 w0 _ ?side1 ?side2 A3.out).mono ?_); (case side1 => repeat (first | (with_reducible first | exact HI0.out | apply IsS75.alloc | apply IsS75.drewN | apply IsS75.drew | apply IsS75.set_1 | apply IsS75.set_2) | exact HI0.out)); (case side2 => repeat (first | (with_reducible first | exact HB.out | apply below_alloc | apply pw_below_drewN | apply below_drew1 | refine below_set ?_ (IsS75.ge HI0.out)) | exact HB.out)); rintro e w10 ⟨rfl, hi, hb, hk⟩; refine ⟨_, rfl, ?_⟩; have n0_ := Aside0.mk (MK.R_mono (MK.R_keep (IsS75.apartM (show IsS75 w0 _ g s0_0 s0_1 s0_2 from by repeat (first | (with_reducible first | exact HI0.out | apply IsS75.alloc | apply IsS75.drewN | apply IsS75.drew | apply IsS75.set_1 | apply IsS75.set_2) | exact HI0.out)) (by (with_reducible repeat (first | apply MK.R_alloc | apply MK.R_drewN | apply MK.R_drew)); exact HO1.out) (by decide)) hk (fun _ h => h.2)) (fun _ h => h.1)); have n1_ := Aside0.mk (Kept.of_keep (S := (fun k_ => (P1_ k_) ∨ k_ = g)) (by repeat (first | (with_reducible first | exact HK.out | apply Kept.alloc | apply Kept.drewN | apply Kept.drew | refine Kept.setCell ?_ (.inl (.inr rfl)) _) | exact HK.out)) hk (.inl (.inr rfl))); have n2_ := Aside0.mk (hb); have n3_ := Aside0.mk (hi); clear HO1; clear HK; clear HB; clear HI0; have HO1 := n0_; have HK := n1_; have HB := n2_; have HI0 := n3_; clear n0_ n1_ n2_ n3_; (try clear hb); (try clear hb2); (try clear hk); (try clear hi); obtain ⟨Ao11, co11, eo11⟩ := MK.R_slice HO1.out; subst eo11))
    (try simp only [Act.put, List.setIfInBounds_toArray, List.set_cons_zero, List.set_cons_succ])
    go_cut [] (fun wc => ∃ (kq : Nat) (x1_8 : List Int) (x1001_8 : Int) (x1002_8 : Int), Aside0 (spec_l3Turn.j0 kq x1_8 t183 (l1.length : Int) s0_0 x1001_8 x1002_8 = some (r1, r2, r3)) ∧ Aside0 (kq ≤ k) ∧ Aside0 (MK.R 5 wc w0.heap.size (fun k_ => (P1_ k_ ∨ w.heap.size ≤ k_)) (.slice Ao11 l1.length co11) x1_8) ∧ Aside0 (IsS75 w0 wc g s0_0 x1001_8 x1002_8) ∧ Aside0 (Kept w wc (fun k_ => (P1_ k_) ∨ k_ = g)) ∧ Aside0 (Below w0.heap.size w0 wc))
    case first =>
      have H := HC9.out
      clear HC9
      by_cases c12 : t183 < 3
      · rw [if_pos c12] at H
        have c12b0 : decide (t183 < 3) = true := decide_eq_true c12
        clear c12
        (first | rw [c12b0] | (simp only [i64_w, i32_w]; rw [c12b0]) | skip)
        replace H := Option.bind_eq_some_iff.mp H
        obtain ⟨⟨t191, t192, t193⟩, A130, H⟩ := H
        replace H : ((spec_l1Chance.f s0_0 t192 t193 2).bind fun bt194 => (if bt194.1 = true then ((spec_l1Next.f s0_0 bt194.2.1 bt194.2.2 16).bind fun bt197 => (if 0 ≤ (Int.tmod bt197.1 (l1.length : Int)) then (if (Int.tmod bt197.1 (l1.length : Int)) < (l1.length : Int) then ((spec_l1Next.f s0_0 bt197.2.1 bt197.2.2 255).bind fun bt201 => (spec_l3Turn.j0 k (l1.set ((Int.tmod bt197.1 (l1.length : Int)) : Int).toNat (Go.bits .xor .u8 (rd l1 (Int.tmod bt197.1 (l1.length : Int))) ((wrap64 (1 + bt201.1)) % 256))) t183 (l1.length : Int) s0_0 bt201.2.1 bt201.2.2)) else (none)) else (none))) else (if 0 ≤ (Int.tmod t191 (l1.length : Int)) then (if (Int.tmod t191 (l1.length : Int)) < (l1.length : Int) then ((spec_l1Next.f s0_0 bt194.2.1 bt194.2.2 255).bind fun bt206 => (spec_l3Turn.j0 k (l1.set ((Int.tmod t191 (l1.length : Int)) : Int).toNat (Go.bits .xor .u8 (rd l1 (Int.tmod t191 (l1.length : Int))) ((wrap64 (1 + bt206.1)) % 256))) t183 (l1.length : Int) s0_0 bt206.2.1 bt206.2.2)) else (none)) else (none)))) = some (r1, r2, r3) := H
        have A13 := Aside0.mk A130
        clear A130
        replace H := Option.bind_eq_some_iff.mp H
        obtain ⟨⟨t194, t195, t196⟩, A140, H⟩ := H
        replace H : (if t194 = true then ((spec_l1Next.f s0_0 t195 t196 16).bind fun bt197 => (if 0 ≤ (Int.tmod bt197.1 (l1.length : Int)) then (if (Int.tmod bt197.1 (l1.length : Int)) < (l1.length : Int) then ((spec_l1Next.f s0_0 bt197.2.1 bt197.2.2 255).bind fun bt201 => (spec_l3Turn.j0 k (l1.set ((Int.tmod bt197.1 (l1.length : Int)) : Int).toNat (Go.bits .xor .u8 (rd l1 (Int.tmod bt197.1 (l1.length : Int))) ((wrap64 (1 + bt201.1)) % 256))) t183 (l1.length : Int) s0_0 bt201.2.1 bt201.2.2)) else (none)) else (none))) else (if 0 ≤ (Int.tmod t191 (l1.length : Int)) then (if (Int.tmod t191 (l1.length : Int)) < (l1.length : Int) then ((spec_l1Next.f s0_0 t195 t196 255).bind fun bt206 => (spec_l3Turn.j0 k (l1.set ((Int.tmod t191 (l1.length : Int)) : Int).toNat (Go.bits .xor .u8 (rd l1 (Int.tmod t191 (l1.length : Int))) ((wrap64 (1 + bt206.1)) % 256))) t183 (l1.length : Int) s0_0 bt206.2.1 bt206.2.2)) else (none)) else (none))) = some (r1, r2, r3) := H
        have A14 := Aside0.mk A140
        clear A140
        by_cases c15 : t194 = true
        · subst c15
          have H1 : ((spec_l1Next.f s0_0 t195 t196 16).bind fun bt197 => (if 0 ≤ (Int.tmod bt197.1 (l1.length : Int)) then (if (Int.tmod bt197.1 (l1.length : Int)) < (l1.length : Int) then ((spec_l1Next.f s0_0 bt197.2.1 bt197.2.2 255).bind fun bt201 => (spec_l3Turn.j0 k (l1.set ((Int.tmod bt197.1 (l1.length : Int)) : Int).toNat (Go.bits .xor .u8 (rd l1 (Int.tmod bt197.1 (l1.length : Int))) ((wrap64 (1 + bt201.1)) % 256))) t183 (l1.length : Int) s0_0 bt201.2.1 bt201.2.2)) else (none)) else (none))) = some (r1, r2, r3) := by rw [if_pos rfl] at H; exact H
          clear H
          have H := H1
          clear H1
          replace H := Option.bind_eq_some_iff.mp H
          obtain ⟨⟨t197, t198, t199⟩, A160, H⟩ := H
          replace H : (if 0 ≤ (Int.tmod t197 (l1.length : Int)) then (if (Int.tmod t197 (l1.length : Int)) < (l1.length : Int) then ((spec_l1Next.f s0_0 t198 t199 255).bind fun bt201 => (spec_l3Turn.j0 k (l1.set ((Int.tmod t197 (l1.length : Int)) : Int).toNat (Go.bits .xor .u8 (rd l1 (Int.tmod t197 (l1.length : Int))) ((wrap64 (1 + bt201.1)) % 256))) t183 (l1.length : Int) s0_0 bt201.2.1 bt201.2.2)) else (none)) else (none)) = some (r1, r2, r3) := H
          have A16 := Aside0.mk A160
          clear A160
          obtain ⟨ji17, hji17⟩ : ∃ j_ : Int, (Int.tmod t197 (l1.length : Int)) = j_ := ⟨_, rfl⟩
          replace H : (if 0 ≤ (ji17) then (if (ji17) < (l1.length : Int) then ((spec_l1Next.f s0_0 t198 t199 255).bind fun bt201 => (spec_l3Turn.j0 k (l1.set ((ji17) : Int).toNat (Go.bits .xor .u8 (rd l1 (ji17)) ((wrap64 (1 + bt201.1)) % 256))) t183 (l1.length : Int) s0_0 bt201.2.1 bt201.2.2)) else (none)) else (none)) = some (r1, r2, r3) := by first | (rw [hji17] at H; exact H) | (simp only [hji17] at H ⊢; exact H)
          (try rw [hji17] at A13)
          (try rw [hji17] at A14)
          (try rw [hji17] at A16)
          by_cases c18 : 0 ≤ (ji17)
          · rw [if_pos c18] at H
            have c18b0 : decide (0 ≤ (ji17)) = true := decide_eq_true c18
            clear c18
            by_cases c19 : (ji17) < (l1.length : Int)
            · rw [if_pos c19] at H
              have c19b0 : decide ((ji17) < (l1.length : Int)) = true := decide_eq_true c19
              clear c19
              replace H := Option.bind_eq_some_iff.mp H
              obtain ⟨⟨t201, t202, t203⟩, A200, H⟩ := H
              replace H : (spec_l3Turn.j0 k (l1.set ((ji17) : Int).toNat (Go.bits .xor .u8 (rd l1 (ji17)) ((wrap64 (1 + t201)) % 256))) t183 (l1.length : Int) s0_0 t202 t203) = some (r1, r2, r3) := H
              have A20 := Aside0.mk A200
              clear A200
              obtain ⟨y204, hy204⟩ : ∃ y_ : List Int, y_ = (l1.set ((ji17) : Int).toNat (Go.bits .xor .u8 (rd l1 (ji17)) ((wrap64 (1 + t201)) % 256))) := ⟨_, rfl⟩
              replace H : (spec_l3Turn.j0 k y204 t183 (l1.length : Int) s0_0 t202 t203) = some (r1, r2, r3) := by first | (rw [hy204]; with_reducible exact H) | (have H2_ := (Option.bind_some _ _).symm.trans H; rw [hy204]; with_reducible exact H2_) | (have H2_ := (Option.bind_some _ _).symm.trans H; with_reducible exact H2_) | with_reducible exact H | (rw [hy204]; exact H) | exact H
              have Ny204 := Aside0.mk hy204
              clear hy204
              have H' := Aside0.mk H
              clear H
              try go_wp2_with (first | ((with_reducible refine gate_callee (f := 45) rfl ?_); refine goesL_ (some 21) rfl rfl Try.func45 (by kernel_rfl) rfl #[.pointer (some ⟨g, 0, none⟩), .int .i64 (l1.length : Int)] rfl (by (try simp only [List.map_toArray, List.map_cons, List.map_nil]); first | done | rfl | (simp only [List.length_drop, List.length_take]; rfl)) ?_; (with_reducible refine (spec_l1Next.calls g s0_0 t184 t185 (l1.length : Int) t191 t192 t193 w0 _ ?side1 ?side2 A13.out).mono ?_); (case side1 => repeat (first | (with_reducible first | exact HI0.out | apply IsS75.alloc | apply IsS75.drewN | apply IsS75.drew | apply IsS75.set_1 | apply IsS75.set_2) | exact HI0.out)); (case side2 => repeat (first | (with_reducible first | exact HB.out | apply below_alloc | apply pw_below_drewN | apply below_drew1 | refine below_set ?_ (IsS75.ge HI0.out)) | exact HB.out)); rintro e w22 ⟨rfl, hi, hb, hk⟩; refine ⟨_, rfl, ?_⟩; have n0_ := Aside0.mk (MK.R_mono (MK.R_keep (IsS75.apartM (show IsS75 w0 _ g s0_0 t184 t185 from by repeat (first | (with_reducible first | exact HI0.out | apply IsS75.alloc | apply IsS75.drewN | apply IsS75.drew | apply IsS75.set_1 | apply IsS75.set_2) | exact HI0.out)) (by (with_reducible repeat (first | apply MK.R_alloc | apply MK.R_drewN | apply MK.R_drew)); exact HO1.out) (by decide)) hk (fun _ h => h.2)) (fun _ h => h.1)); have n1_ := Aside0.mk (Kept.of_keep (S := (fun k_ => (P1_ k_) ∨ k_ = g)) (by repeat (first | (with_reducible first | exact HK.out | apply Kept.alloc | apply Kept.drewN | apply Kept.drew | refine Kept.setCell ?_ (.inl (.inr rfl)) _) | exact HK.out)) hk (.inl (.inr rfl))); have n2_ := Aside0.mk (hb); have n3_ := Aside0.mk (hi); clear HO1; clear HK; clear HB; clear HI0; have HO1 := n0_; have HK := n1_; have HB := n2_; have HI0 := n3_; clear n0_ n1_ n2_ n3_; (try clear hb); (try clear hb2); (try clear hk); (try clear hi)) | ((with_reducible refine gate_callee (f := 47) rfl ?_); refine goesL_ (some 23) rfl rfl Try.func47 (by kernel_rfl) rfl #[.pointer (some ⟨g, 0, none⟩), .int .i64 2] rfl (by (try simp only [List.map_toArray, List.map_cons, List.map_nil]); first | done | rfl | (simp only [List.length_drop, List.length_take]; rfl)) ?_; (with_reducible refine (spec_l1Chance.calls g s0_0 t192 t193 2 true t195 t196 w0 _ ?side1 ?side2 A14.out).mono ?_); (case side1 => repeat (first | (with_reducible first | exact HI0.out | apply IsS75.alloc | apply IsS75.drewN | apply IsS75.drew | apply IsS75.set_1 | apply IsS75.set_2) | exact HI0.out)); (case side2 => repeat (first | (with_reducible first | exact HB.out | apply below_alloc | apply pw_below_drewN | apply below_drew1 | refine below_set ?_ (IsS75.ge HI0.out)) | exact HB.out)); rintro e w23 ⟨rfl, hi, hb, hk⟩; refine ⟨_, rfl, ?_⟩; have n0_ := Aside0.mk (MK.R_mono (MK.R_keep (IsS75.apartM (show IsS75 w0 _ g s0_0 t192 t193 from by repeat (first | (with_reducible first | exact HI0.out | apply IsS75.alloc | apply IsS75.drewN | apply IsS75.drew | apply IsS75.set_1 | apply IsS75.set_2) | exact HI0.out)) (by (with_reducible repeat (first | apply MK.R_alloc | apply MK.R_drewN | apply MK.R_drew)); exact HO1.out) (by decide)) hk (fun _ h => h.2)) (fun _ h => h.1)); have n1_ := Aside0.mk (Kept.of_keep (S := (fun k_ => (P1_ k_) ∨ k_ = g)) (by repeat (first | (with_reducible first | exact HK.out | apply Kept.alloc | apply Kept.drewN | apply Kept.drew | refine Kept.setCell ?_ (.inl (.inr rfl)) _) | exact HK.out)) hk (.inl (.inr rfl))); have n2_ := Aside0.mk (hb); have n3_ := Aside0.mk (hi); clear HO1; clear HK; clear HB; clear HI0; have HO1 := n0_; have HK := n1_; have HB := n2_; have HI0 := n3_; clear n0_ n1_ n2_ n3_; (try clear hb); (try clear hb2); (try clear hk); (try clear hi)) | ((with_reducible refine gate_callee (f := 45) rfl ?_); refine goesL_ (some 25) rfl rfl Try.func45 (by kernel_rfl) rfl #[.pointer (some ⟨g, 0, none⟩), .int .i64 16] rfl (by (try simp only [List.map_toArray, List.map_cons, List.map_nil]); first | done | rfl | (simp only [List.length_drop, List.length_take]; rfl)) ?_; (with_reducible refine (spec_l1Next.calls g s0_0 t195 t196 16 t197 t198 t199 w0 _ ?side1 ?side2 A16.out).mono ?_); (case side1 => repeat (first | (with_reducible first | exact HI0.out | apply IsS75.alloc | apply IsS75.drewN | apply IsS75.drew | apply IsS75.set_1 | apply IsS75.set_2) | exact HI0.out)); (case side2 => repeat (first | (with_reducible first | exact HB.out | apply below_alloc | apply pw_below_drewN | apply below_drew1 | refine below_set ?_ (IsS75.ge HI0.out)) | exact HB.out)); rintro e w24 ⟨rfl, hi, hb, hk⟩; refine ⟨_, rfl, ?_⟩; have n0_ := Aside0.mk (MK.R_mono (MK.R_keep (IsS75.apartM (show IsS75 w0 _ g s0_0 t195 t196 from by repeat (first | (with_reducible first | exact HI0.out | apply IsS75.alloc | apply IsS75.drewN | apply IsS75.drew | apply IsS75.set_1 | apply IsS75.set_2) | exact HI0.out)) (by (with_reducible repeat (first | apply MK.R_alloc | apply MK.R_drewN | apply MK.R_drew)); exact HO1.out) (by decide)) hk (fun _ h => h.2)) (fun _ h => h.1)); have n1_ := Aside0.mk (Kept.of_keep (S := (fun k_ => (P1_ k_) ∨ k_ = g)) (by repeat (first | (with_reducible first | exact HK.out | apply Kept.alloc | apply Kept.drewN | apply Kept.drew | refine Kept.setCell ?_ (.inl (.inr rfl)) _) | exact HK.out)) hk (.inl (.inr rfl))); have n2_ := Aside0.mk (hb); have n3_ := Aside0.mk (hi); clear HO1; clear HK; clear HB; clear HI0; have HO1 := n0_; have HK := n1_; have HB := n2_; have HI0 := n3_; clear n0_ n1_ n2_ n3_; (try clear hb); (try clear hb2); (try clear hk); (try clear hi)))
              have n0_ := Aside0.mk (MK.R_drew HO1.out)
              have n1_ := Aside0.mk (IsS75.drew HI0.out)
              have n2_ := Aside0.mk (Kept.drew HK.out)
              have n3_ := Aside0.mk (below_drew1 HB.out)
              clear HO1
              clear HI0
              clear HK
              clear HB
              have HO1 := n0_
              have HI0 := n1_
              have HK := n2_
              have HB := n3_
              clear n0_ n1_ n2_ n3_
              have p200 : 0 ≤ ((ji17) : Int) := of_decide_eq_true (by first | (with_reducible assumption) | assumption)
              have q200 : (ji17) < (l1.length : Int) := of_decide_eq_true (by first | (with_reducible assumption) | assumption)
              obtain ⟨ad200, e200, hx200_0⟩ := Kd.at_int (MK.R_reads' HO1.out).2.2 (ji17) p200 q200
              cases e200
              replace p200 := eq_true p200
              replace q200 := eq_true q200
              refine start_ (n := 17) (S := fun w' => w'.cell? (ad200.add ((ji17)).toNat) = some (.int .u8 (rd l1 (ji17)))) (ds := [16]) #[false, false, false, false, false, false, false, false, false, false, false, false, false, false, false, false, false] (by kernel_rfl) rfl rfl (hx200_0) (fun hHeld => ?_); refine with_tabW spec_l3Turn.tab9 spec_l3Turn.bits9 (fun HT_ HW_ => ?_)
              generalize w24.drew = w25 at HO1 HI0 HK HB hx200_0 hHeld ⊢
              refine pure_ (i := 0) (N := some 26) (v := ?_) (a' := ?_) #[true, false, false, false, false, false, false, false, false, false, false, false, false, false, false, false, false] rfl rfl (any_of HT_.out (by kernel_rfl)) (fun _ _ _ h => h) (Or.inl ⟨by rfl, ?_⟩) ?_ ?_
              rotate_left
              · intro w'
                go_simp
                with_reducible rfl
              rotate_left
              · simp only [Act.put, List.setIfInBounds_toArray, List.set_cons_zero, List.set_cons_succ, i64_w, i32_w]
                rfl
              refine pure_ (i := 1) (N := some 27) (v := ?_) (a' := ?_) #[true, true, false, false, false, false, false, false, false, false, false, false, false, false, false, false, false] rfl rfl (any_of HT_.out (by kernel_rfl)) (fun _ _ _ h => h) (Or.inl ⟨by rfl, ?_⟩) ?_ ?_
              rotate_left
              · intro w'
                go_simp
                with_reducible rfl
              rotate_left
              · simp only [Act.put, List.setIfInBounds_toArray, List.set_cons_zero, List.set_cons_succ, i64_w, i32_w]
                rfl
              refine pure_ (i := 2) (N := some 28) (v := ?_) (a' := ?_) #[true, true, true, false, false, false, false, false, false, false, false, false, false, false, false, false, false] rfl rfl (any_of HT_.out (by kernel_rfl)) (fun _ _ _ h => h) (Or.inl ⟨by rfl, ?_⟩) ?_ ?_
              rotate_left
              · intro w'
                go_simp
                with_reducible rfl
              rotate_left
              · simp only [Act.put, List.setIfInBounds_toArray, List.set_cons_zero, List.set_cons_succ, i64_w, i32_w]
                rfl
              refine pure_ (i := 3) (N := some 29) (v := ?_) (a' := ?_) #[true, true, true, true, false, false, false, false, false, false, false, false, false, false, false, false, false] rfl rfl (any_of HT_.out (by kernel_rfl)) (fun _ _ _ h => h) (Or.inl ⟨by rfl, ?_⟩) ?_ ?_
              rotate_left
              · intro w'
                go_simp
                with_reducible rfl
              rotate_left
              · simp only [Act.put, List.setIfInBounds_toArray, List.set_cons_zero, List.set_cons_succ, i64_w, i32_w]
                rfl
              refine pure_ (i := 4) (N := some 30) (v := ?_) (a' := ?_) #[true, true, true, true, true, false, false, false, false, false, false, false, false, false, false, false, false] rfl rfl (any_of HT_.out (by kernel_rfl)) (fun _ _ _ h => h) (Or.inl ⟨by rfl, ?_⟩) ?_ ?_
              rotate_left
              · intro w'
                go_simp
                with_reducible rfl
              rotate_left
              · simp only [Act.put, List.setIfInBounds_toArray, List.set_cons_zero, List.set_cons_succ, i64_w, i32_w]
                rfl
              refine pure_ (i := 5) (N := some 31) (v := ?_) (a' := ?_) #[true, true, true, true, true, true, false, false, false, false, false, false, false, false, false, false, false] rfl rfl (any_of HT_.out (by kernel_rfl)) (fun _ _ _ h => h) (Or.inl ⟨by rfl, ?_⟩) ?_ ?_
              rotate_left
              · intro w'
                go_simp
                with_reducible rfl
              rotate_left
              · simp only [Act.put, List.setIfInBounds_toArray, List.set_cons_zero, List.set_cons_succ, i64_w, i32_w]
                rfl
              refine pure_ (i := 6) (N := some 32) (v := ?_) (a' := ?_) #[true, true, true, true, true, true, true, false, false, false, false, false, false, false, false, false, false] rfl rfl (any_of HT_.out (by kernel_rfl)) (fun _ _ _ h => h) (Or.inl ⟨by rfl, ?_⟩) ?_ ?_
              rotate_left
              · intro w'
                go_simp
                with_reducible rfl
              rotate_left
              · simp only [Act.put, List.setIfInBounds_toArray, List.set_cons_zero, List.set_cons_succ, i64_w, i32_w]
                rfl
              refine pure_ (i := 7) (N := some 33) (v := ?_) (a' := ?_) #[true, true, true, true, true, true, true, true, false, false, false, false, false, false, false, false, false] rfl rfl (any_of HT_.out (by kernel_rfl)) (fun _ _ _ h => h) (Or.inl ⟨by rfl, ?_⟩) ?_ ?_
              rotate_left
              · intro w'
                go_simp
                with_reducible rfl
              rotate_left
              · simp only [Act.put, List.setIfInBounds_toArray, List.set_cons_zero, List.set_cons_succ, i64_w, i32_w]
                rfl
              refine pure_ (i := 8) (N := some 34) (v := ?_) (a' := ?_) #[true, true, true, true, true, true, true, true, true, false, false, false, false, false, false, false, false] rfl rfl (any_of HT_.out (by kernel_rfl)) (fun _ _ _ h => h) (Or.inl ⟨by rfl, ?_⟩) ?_ ?_
              rotate_left
              · intro w'
                go_simp
                with_reducible rfl
              rotate_left
              · simp only [Act.put, List.setIfInBounds_toArray, List.set_cons_zero, List.set_cons_succ, i64_w, i32_w]
                rfl
              refine pure_ (i := 10) (N := some 36) (v := ?_) (a' := ?_) #[true, true, true, true, true, true, true, true, true, false, true, false, false, false, false, false, false] rfl rfl (any_of HT_.out (by kernel_rfl)) (fun _ _ _ h => h) (Or.inl ⟨by rfl, ?_⟩) ?_ ?_
              rotate_left
              · intro w'
                go_simp
                with_reducible rfl
              rotate_left
              · simp only [Act.put, List.setIfInBounds_toArray, List.set_cons_zero, List.set_cons_succ, i64_w, i32_w]
                rfl
              refine take_ (i := 9) (N := some 35) (v := ?_) (a' := ?_) #[true, true, true, true, true, true, true, true, true, true, true, false, false, false, false, false, false] rfl rfl (take_ofW HT_.out HW_.out (by kernel_rfl)) (fun _ _ _ h => h) (Or.inl ⟨by rfl, ?_⟩) hHeld ?_ ?_
              rotate_left
              · intro w' s0
                go_simp
                with_reducible rfl
              rotate_left
              · simp only [Act.put, List.setIfInBounds_toArray, List.set_cons_zero, List.set_cons_succ, i64_w, i32_w]
                rfl
              refine one_ (i := 11) (N := some 37) #[true, true, true, true, true, true, true, true, true, true, true, true, false, false, false, false, false] rfl rfl (one_of HT_.out (by kernel_rfl)) (by decide) (fun K hK => ?_)
              refine goes_ Try.func45 (by kernel_rfl) rfl #[.pointer (some ⟨g, 0, none⟩), .int .i64 255] (by rfl) rfl rfl (by (try simp only [List.map_toArray, List.map_cons, List.map_nil]); first | done | rfl | (simp only [List.length_drop, List.length_take]; rfl)) ?_
              with_reducible refine (spec_l1Next.calls g s0_0 t198 t199 255 t201 t202 t203 w0 _ ?side1 ?side2 A20.out).mono ?_
              (case side1 => repeat (first | (with_reducible first | exact HI0.out | apply IsS75.alloc | apply IsS75.drewN | apply IsS75.drew | apply IsS75.set_1 | apply IsS75.set_2) | exact HI0.out))
              (case side2 => repeat (first | (with_reducible first | exact HB.out | apply below_alloc | apply pw_below_drewN | apply below_drew1 | refine below_set ?_ (IsS75.ge HI0.out)) | exact HB.out))
              rintro e w26 ⟨rfl, hi, hb, hk⟩
              have HS0_ := keep_cell hk (hHeld) (by first | (rw [add_block]; exact Kd.own_blk (IsS75.own_neM HI0.out HO1.out (by decide))) | (show (Addr.add _ _).block ≠ _; rw [add_block]; exact Kd.own_blk (IsS75.own_neM HI0.out HO1.out (by decide))) | exact Kd.own_blk (IsS75.own_neM HI0.out HO1.out (by decide)))
              refine ⟨_, rfl, ?_⟩
              have n0_ := Aside0.mk (MK.R_mono (MK.R_keep (IsS75.apartM (show IsS75 w0 _ g s0_0 t198 t199 from by repeat (first | (with_reducible first | exact HI0.out | apply IsS75.alloc | apply IsS75.drewN | apply IsS75.drew | apply IsS75.set_1 | apply IsS75.set_2) | exact HI0.out)) (by (with_reducible repeat (first | apply MK.R_alloc | apply MK.R_drewN | apply MK.R_drew)); exact HO1.out) (by decide)) hk (fun _ h => h.2)) (fun _ h => h.1))
              have n1_ := Aside0.mk (Kept.of_keep (S := (fun k_ => (P1_ k_) ∨ k_ = g)) (by repeat (first | (with_reducible first | exact HK.out | apply Kept.alloc | apply Kept.drewN | apply Kept.drew | refine Kept.setCell ?_ (.inl (.inr rfl)) _) | exact HK.out)) hk (.inl (.inr rfl)))
              have n2_ := Aside0.mk (hb)
              have n3_ := Aside0.mk (hi)
              clear HO1
              clear HK
              clear HB
              clear HI0
              have HO1 := n0_
              have HK := n1_
              have HB := n2_
              have HI0 := n3_
              clear n0_ n1_ n2_ n3_
              (try clear hb)
              (try clear hb2)
              (try clear hk)
              (try clear hi)
              have p21 : 0 ≤ ((ji17) : Int) := of_decide_eq_true (by first | (with_reducible assumption) | assumption)
              have q21 : ((ji17) : Int) < ((l1.length : Int) : Int) := of_decide_eq_true (by first | (with_reducible assumption) | assumption)
              obtain ⟨go21, co21, eo21, gb21, gl21, cl21, HG21⟩ := MK.R_form HO1.out (by omega)
              (first | cases eo21 | (injection eo21 with ea_ en_ ec_; (first | subst ea_ | (injection ea_ with ea_; subst ea_)); subst ec_; clear en_))
              have GB21 := Aside0.mk gb21
              have GG21 := Aside0.mk HG21
              clear gb21 gl21 HG21
              have HMgo21 := Aside0.mk (show (P1_ go21 ∨ w.heap.size ≤ go21) from (MK.R_ok HO1.out _ rfl))
              (first | simp only [add_plain] at hx200_0 | skip)
              obtain ⟨hx21_0, hf21_0⟩ := MK.R_celln 0 HO1.out ((ji17) : Int) p21 q21
              replace p21 := eq_true p21
              replace q21 := eq_true q21
              have HN0_go21 := Aside0.mk (show g ≠ go21 from by have h_ := IsS75.own_neM HI0.out HO1.out (by decide); intro e_; exact h_ (by rw [e_]; rfl))
              have HP27 := MK.R_putn HO1.out ((ji17) : Int) (Go.bits .xor .u8 (rd l1 (ji17)) ((wrap64 (1 + t201)) % 256))
              rw [← Ny204.out] at HP27
              have HQ27 := Aside0.mk HP27
              clear HP27
              refine hK.out _ _ (HS0_) (fun hHeld => ?_)
              clear hK K
              refine norm_ (a' := ?_) ?_ ?_
              rotate_left
              · show Act.put _ (some 37) _ = _
                simp only [Act.put, List.setIfInBounds_toArray, List.set_cons_zero, List.set_cons_succ, i64_w, i32_w]
                rfl
              refine pure_ (i := 12) (N := some 38) (v := ?_) (a' := ?_) #[true, true, true, true, true, true, true, true, true, true, true, true, true, false, false, false, false] rfl rfl (any_of HT_.out (by kernel_rfl)) (fun _ _ _ h => h) (Or.inl ⟨by rfl, ?_⟩) ?_ ?_
              rotate_left
              · intro w'
                go_simp
                with_reducible rfl
              rotate_left
              · simp only [Act.put, List.setIfInBounds_toArray, List.set_cons_zero, List.set_cons_succ, i64_w, i32_w]
                rfl
              refine pure_ (i := 13) (N := some 39) (v := ?_) (a' := ?_) #[true, true, true, true, true, true, true, true, true, true, true, true, true, true, false, false, false] rfl rfl (any_of HT_.out (by kernel_rfl)) (fun _ _ _ h => h) (Or.inl ⟨by rfl, ?_⟩) ?_ ?_
              rotate_left
              · intro w'
                go_simp
                with_reducible rfl
              rotate_left
              · simp only [Act.put, List.setIfInBounds_toArray, List.set_cons_zero, List.set_cons_succ, i64_w, i32_w]
                rfl
              refine pure_ (i := 14) (N := some 40) (v := ?_) (a' := ?_) #[true, true, true, true, true, true, true, true, true, true, true, true, true, true, true, false, false] rfl rfl (any_of HT_.out (by kernel_rfl)) (fun _ _ _ h => h) (Or.inl ⟨by rfl, ?_⟩) ?_ ?_
              rotate_left
              · intro w'
                go_simp
                with_reducible rfl
              rotate_left
              · simp only [Act.put, List.setIfInBounds_toArray, List.set_cons_zero, List.set_cons_succ, i64_w, i32_w]
                rfl
              refine pure_ (i := 15) (N := some 41) (v := ?_) (a' := ?_) #[true, true, true, true, true, true, true, true, true, true, true, true, true, true, true, true, false] rfl rfl (any_of HT_.out (by kernel_rfl)) (fun _ _ _ h => h) (Or.inl ⟨by rfl, ?_⟩) ?_ ?_
              rotate_left
              · intro w'
                go_simp
                with_reducible rfl
              rotate_left
              · simp only [Act.put, List.setIfInBounds_toArray, List.set_cons_zero, List.set_cons_succ, i64_w, i32_w]
                rfl
              refine last_ (i := 16) (N := none) #[true, true, true, true, true, true, true, true, true, true, true, true, true, true, true, true, true] rfl rfl (one_of HT_.out (by kernel_rfl)) (by decide) (fun K hK => ?_)
              refine skip_ (w1 := ?_) (by rfl) rfl ?_ ?_
              rotate_left
              · go_simp
                rfl
              refine hK.out _ _ ?_
              clear hK K
              refine done_ (done_of HT_.out (by kernel_rfl)) ?_
              try go_wp2
              go_meet
              case rel => exact ⟨_, (y204), (t202), (t203), H', ⟨by first | omega | exact Nat.le_refl _⟩, ⟨by (with_reducible repeat (first | apply MK.R_alloc | apply MK.R_drewN | apply MK.R_drew)); exact HQ27.out⟩, ⟨by repeat (first | (with_reducible first | exact HI0.out | apply IsS75.alloc | apply IsS75.drewN | apply IsS75.drew | apply IsS75.set_1 | apply IsS75.set_2 | refine IsS75.far ?_ HN0_go21.out _) | exact HI0.out)⟩, ⟨by repeat (first | (with_reducible first | exact HK.out | apply Kept.alloc | apply Kept.drewN | apply Kept.drew | refine Kept.setCell ?_ (Or.imp_left Or.inl HMgo21.out) _ | refine Kept.setCell ?_ (.inl (.inr rfl)) _) | exact HK.out)⟩, ⟨by repeat (first | (with_reducible first | exact HB.out | apply below_alloc | apply pw_below_drewN | apply below_drew1 | refine below_set ?_ GB21.out | refine below_set ?_ (IsS75.ge HI0.out)) | exact HB.out)⟩⟩
            · rw [if_neg c19] at H
              exact absurd H (by simp)
          · rw [if_neg c18] at H
            exact absurd H (by simp)
        · replace c15 := Bool.eq_false_iff.mpr c15
          subst c15
          have H1 : (if 0 ≤ (Int.tmod t191 (l1.length : Int)) then (if (Int.tmod t191 (l1.length : Int)) < (l1.length : Int) then ((spec_l1Next.f s0_0 t195 t196 255).bind fun bt206 => (spec_l3Turn.j0 k (l1.set ((Int.tmod t191 (l1.length : Int)) : Int).toNat (Go.bits .xor .u8 (rd l1 (Int.tmod t191 (l1.length : Int))) ((wrap64 (1 + bt206.1)) % 256))) t183 (l1.length : Int) s0_0 bt206.2.1 bt206.2.2)) else (none)) else (none)) = some (r1, r2, r3) := by rw [if_neg (show ¬ (false = true) by decide)] at H; exact H
          clear H
          have H := H1
          clear H1
          obtain ⟨ji28, hji28⟩ : ∃ j_ : Int, (Int.tmod t191 (l1.length : Int)) = j_ := ⟨_, rfl⟩
          replace H : (if 0 ≤ (ji28) then (if (ji28) < (l1.length : Int) then ((spec_l1Next.f s0_0 t195 t196 255).bind fun bt206 => (spec_l3Turn.j0 k (l1.set ((ji28) : Int).toNat (Go.bits .xor .u8 (rd l1 (ji28)) ((wrap64 (1 + bt206.1)) % 256))) t183 (l1.length : Int) s0_0 bt206.2.1 bt206.2.2)) else (none)) else (none)) = some (r1, r2, r3) := by first | (rw [hji28] at H; exact H) | (simp only [hji28] at H ⊢; exact H)
          (try rw [hji28] at A13)
          (try rw [hji28] at A14)
          by_cases c29 : 0 ≤ (ji28)
          · rw [if_pos c29] at H
            have c29b0 : decide (0 ≤ (ji28)) = true := decide_eq_true c29
            clear c29
            by_cases c30 : (ji28) < (l1.length : Int)
            · rw [if_pos c30] at H
              have c30b0 : decide ((ji28) < (l1.length : Int)) = true := decide_eq_true c30
              clear c30
              replace H := Option.bind_eq_some_iff.mp H
              obtain ⟨⟨t206, t207, t208⟩, A310, H⟩ := H
              replace H : (spec_l3Turn.j0 k (l1.set ((ji28) : Int).toNat (Go.bits .xor .u8 (rd l1 (ji28)) ((wrap64 (1 + t206)) % 256))) t183 (l1.length : Int) s0_0 t207 t208) = some (r1, r2, r3) := H
              have A31 := Aside0.mk A310
              clear A310
              obtain ⟨y209, hy209⟩ : ∃ y_ : List Int, y_ = (l1.set ((ji28) : Int).toNat (Go.bits .xor .u8 (rd l1 (ji28)) ((wrap64 (1 + t206)) % 256))) := ⟨_, rfl⟩
              replace H : (spec_l3Turn.j0 k y209 t183 (l1.length : Int) s0_0 t207 t208) = some (r1, r2, r3) := by first | (rw [hy209]; with_reducible exact H) | (have H2_ := (Option.bind_some _ _).symm.trans H; rw [hy209]; with_reducible exact H2_) | (have H2_ := (Option.bind_some _ _).symm.trans H; with_reducible exact H2_) | with_reducible exact H | (rw [hy209]; exact H) | exact H
              have Ny209 := Aside0.mk hy209
              clear hy209
              have H' := Aside0.mk H
              clear H
              try go_wp2_with (first | ((with_reducible refine gate_callee (f := 45) rfl ?_); refine goesL_ (some 21) rfl rfl Try.func45 (by kernel_rfl) rfl #[.pointer (some ⟨g, 0, none⟩), .int .i64 (l1.length : Int)] rfl (by (try simp only [List.map_toArray, List.map_cons, List.map_nil]); first | done | rfl | (simp only [List.length_drop, List.length_take]; rfl)) ?_; (with_reducible refine (spec_l1Next.calls g s0_0 t184 t185 (l1.length : Int) t191 t192 t193 w0 _ ?side1 ?side2 A13.out).mono ?_); (case side1 => repeat (first | (with_reducible first | exact HI0.out | apply IsS75.alloc | apply IsS75.drewN | apply IsS75.drew | apply IsS75.set_1 | apply IsS75.set_2) | exact HI0.out)); (case side2 => repeat (first | (with_reducible first | exact HB.out | apply below_alloc | apply pw_below_drewN | apply below_drew1 | refine below_set ?_ (IsS75.ge HI0.out)) | exact HB.out)); rintro e w33 ⟨rfl, hi, hb, hk⟩; refine ⟨_, rfl, ?_⟩; have n0_ := Aside0.mk (MK.R_mono (MK.R_keep (IsS75.apartM (show IsS75 w0 _ g s0_0 t184 t185 from by repeat (first | (with_reducible first | exact HI0.out | apply IsS75.alloc | apply IsS75.drewN | apply IsS75.drew | apply IsS75.set_1 | apply IsS75.set_2) | exact HI0.out)) (by (with_reducible repeat (first | apply MK.R_alloc | apply MK.R_drewN | apply MK.R_drew)); exact HO1.out) (by decide)) hk (fun _ h => h.2)) (fun _ h => h.1)); have n1_ := Aside0.mk (Kept.of_keep (S := (fun k_ => (P1_ k_) ∨ k_ = g)) (by repeat (first | (with_reducible first | exact HK.out | apply Kept.alloc | apply Kept.drewN | apply Kept.drew | refine Kept.setCell ?_ (.inl (.inr rfl)) _) | exact HK.out)) hk (.inl (.inr rfl))); have n2_ := Aside0.mk (hb); have n3_ := Aside0.mk (hi); clear HO1; clear HK; clear HB; clear HI0; have HO1 := n0_; have HK := n1_; have HB := n2_; have HI0 := n3_; clear n0_ n1_ n2_ n3_; (try clear hb); (try clear hb2); (try clear hk); (try clear hi)) | ((with_reducible refine gate_callee (f := 47) rfl ?_); refine goesL_ (some 23) rfl rfl Try.func47 (by kernel_rfl) rfl #[.pointer (some ⟨g, 0, none⟩), .int .i64 2] rfl (by (try simp only [List.map_toArray, List.map_cons, List.map_nil]); first | done | rfl | (simp only [List.length_drop, List.length_take]; rfl)) ?_; (with_reducible refine (spec_l1Chance.calls g s0_0 t192 t193 2 false t195 t196 w0 _ ?side1 ?side2 A14.out).mono ?_); (case side1 => repeat (first | (with_reducible first | exact HI0.out | apply IsS75.alloc | apply IsS75.drewN | apply IsS75.drew | apply IsS75.set_1 | apply IsS75.set_2) | exact HI0.out)); (case side2 => repeat (first | (with_reducible first | exact HB.out | apply below_alloc | apply pw_below_drewN | apply below_drew1 | refine below_set ?_ (IsS75.ge HI0.out)) | exact HB.out)); rintro e w34 ⟨rfl, hi, hb, hk⟩; refine ⟨_, rfl, ?_⟩; have n0_ := Aside0.mk (MK.R_mono (MK.R_keep (IsS75.apartM (show IsS75 w0 _ g s0_0 t192 t193 from by repeat (first | (with_reducible first | exact HI0.out | apply IsS75.alloc | apply IsS75.drewN | apply IsS75.drew | apply IsS75.set_1 | apply IsS75.set_2) | exact HI0.out)) (by (with_reducible repeat (first | apply MK.R_alloc | apply MK.R_drewN | apply MK.R_drew)); exact HO1.out) (by decide)) hk (fun _ h => h.2)) (fun _ h => h.1)); have n1_ := Aside0.mk (Kept.of_keep (S := (fun k_ => (P1_ k_) ∨ k_ = g)) (by repeat (first | (with_reducible first | exact HK.out | apply Kept.alloc | apply Kept.drewN | apply Kept.drew | refine Kept.setCell ?_ (.inl (.inr rfl)) _) | exact HK.out)) hk (.inl (.inr rfl))); have n2_ := Aside0.mk (hb); have n3_ := Aside0.mk (hi); clear HO1; clear HK; clear HB; clear HI0; have HO1 := n0_; have HK := n1_; have HB := n2_; have HI0 := n3_; clear n0_ n1_ n2_ n3_; (try clear hb); (try clear hb2); (try clear hk); (try clear hi)))
              have n0_ := Aside0.mk (MK.R_drew HO1.out)
              have n1_ := Aside0.mk (IsS75.drew HI0.out)
              have n2_ := Aside0.mk (Kept.drew HK.out)
              have n3_ := Aside0.mk (below_drew1 HB.out)
              clear HO1
              clear HI0
              clear HK
              clear HB
              have HO1 := n0_
              have HI0 := n1_
              have HK := n2_
              have HB := n3_
              clear n0_ n1_ n2_ n3_
              have p205 : 0 ≤ ((ji28) : Int) := of_decide_eq_true (by first | (with_reducible assumption) | assumption)
              have q205 : (ji28) < (l1.length : Int) := of_decide_eq_true (by first | (with_reducible assumption) | assumption)
              obtain ⟨ad205, e205, hx205_0⟩ := Kd.at_int (MK.R_reads' HO1.out).2.2 (ji28) p205 q205
              cases e205
              replace p205 := eq_true p205
              replace q205 := eq_true q205
              refine start_ (n := 17) (S := fun w' => w'.cell? (ad205.add ((ji28)).toNat) = some (.int .u8 (rd l1 (ji28)))) (ds := [16]) #[false, false, false, false, false, false, false, false, false, false, false, false, false, false, false, false, false] (by kernel_rfl) rfl rfl (hx205_0) (fun hHeld => ?_); refine with_tabW spec_l3Turn.tab9 spec_l3Turn.bits9 (fun HT_ HW_ => ?_)
              generalize w34.drew = w35 at HO1 HI0 HK HB hx205_0 hHeld ⊢
              refine pure_ (i := 0) (N := some 26) (v := ?_) (a' := ?_) #[true, false, false, false, false, false, false, false, false, false, false, false, false, false, false, false, false] rfl rfl (any_of HT_.out (by kernel_rfl)) (fun _ _ _ h => h) (Or.inl ⟨by rfl, ?_⟩) ?_ ?_
              rotate_left
              · intro w'
                go_simp
                with_reducible rfl
              rotate_left
              · simp only [Act.put, List.setIfInBounds_toArray, List.set_cons_zero, List.set_cons_succ, i64_w, i32_w]
                rfl
              refine pure_ (i := 1) (N := some 27) (v := ?_) (a' := ?_) #[true, true, false, false, false, false, false, false, false, false, false, false, false, false, false, false, false] rfl rfl (any_of HT_.out (by kernel_rfl)) (fun _ _ _ h => h) (Or.inl ⟨by rfl, ?_⟩) ?_ ?_
              rotate_left
              · intro w'
                go_simp
                with_reducible rfl
              rotate_left
              · simp only [Act.put, List.setIfInBounds_toArray, List.set_cons_zero, List.set_cons_succ, i64_w, i32_w]
                rfl
              refine pure_ (i := 2) (N := some 28) (v := ?_) (a' := ?_) #[true, true, true, false, false, false, false, false, false, false, false, false, false, false, false, false, false] rfl rfl (any_of HT_.out (by kernel_rfl)) (fun _ _ _ h => h) (Or.inl ⟨by rfl, ?_⟩) ?_ ?_
              rotate_left
              · intro w'
                go_simp
                with_reducible rfl
              rotate_left
              · simp only [Act.put, List.setIfInBounds_toArray, List.set_cons_zero, List.set_cons_succ, i64_w, i32_w]
                rfl
              refine pure_ (i := 3) (N := some 29) (v := ?_) (a' := ?_) #[true, true, true, true, false, false, false, false, false, false, false, false, false, false, false, false, false] rfl rfl (any_of HT_.out (by kernel_rfl)) (fun _ _ _ h => h) (Or.inl ⟨by rfl, ?_⟩) ?_ ?_
              rotate_left
              · intro w'
                go_simp
                with_reducible rfl
              rotate_left
              · simp only [Act.put, List.setIfInBounds_toArray, List.set_cons_zero, List.set_cons_succ, i64_w, i32_w]
                rfl
              refine pure_ (i := 4) (N := some 30) (v := ?_) (a' := ?_) #[true, true, true, true, true, false, false, false, false, false, false, false, false, false, false, false, false] rfl rfl (any_of HT_.out (by kernel_rfl)) (fun _ _ _ h => h) (Or.inl ⟨by rfl, ?_⟩) ?_ ?_
              rotate_left
              · intro w'
                go_simp
                with_reducible rfl
              rotate_left
              · simp only [Act.put, List.setIfInBounds_toArray, List.set_cons_zero, List.set_cons_succ, i64_w, i32_w]
                rfl
              refine pure_ (i := 5) (N := some 31) (v := ?_) (a' := ?_) #[true, true, true, true, true, true, false, false, false, false, false, false, false, false, false, false, false] rfl rfl (any_of HT_.out (by kernel_rfl)) (fun _ _ _ h => h) (Or.inl ⟨by rfl, ?_⟩) ?_ ?_
              rotate_left
              · intro w'
                go_simp
                with_reducible rfl
              rotate_left
              · simp only [Act.put, List.setIfInBounds_toArray, List.set_cons_zero, List.set_cons_succ, i64_w, i32_w]
                rfl
              refine pure_ (i := 6) (N := some 32) (v := ?_) (a' := ?_) #[true, true, true, true, true, true, true, false, false, false, false, false, false, false, false, false, false] rfl rfl (any_of HT_.out (by kernel_rfl)) (fun _ _ _ h => h) (Or.inl ⟨by rfl, ?_⟩) ?_ ?_
              rotate_left
              · intro w'
                go_simp
                with_reducible rfl
              rotate_left
              · simp only [Act.put, List.setIfInBounds_toArray, List.set_cons_zero, List.set_cons_succ, i64_w, i32_w]
                rfl
              refine pure_ (i := 7) (N := some 33) (v := ?_) (a' := ?_) #[true, true, true, true, true, true, true, true, false, false, false, false, false, false, false, false, false] rfl rfl (any_of HT_.out (by kernel_rfl)) (fun _ _ _ h => h) (Or.inl ⟨by rfl, ?_⟩) ?_ ?_
              rotate_left
              · intro w'
                go_simp
                with_reducible rfl
              rotate_left
              · simp only [Act.put, List.setIfInBounds_toArray, List.set_cons_zero, List.set_cons_succ, i64_w, i32_w]
                rfl
              refine pure_ (i := 8) (N := some 34) (v := ?_) (a' := ?_) #[true, true, true, true, true, true, true, true, true, false, false, false, false, false, false, false, false] rfl rfl (any_of HT_.out (by kernel_rfl)) (fun _ _ _ h => h) (Or.inl ⟨by rfl, ?_⟩) ?_ ?_
              rotate_left
              · intro w'
                go_simp
                with_reducible rfl
              rotate_left
              · simp only [Act.put, List.setIfInBounds_toArray, List.set_cons_zero, List.set_cons_succ, i64_w, i32_w]
                rfl
              refine pure_ (i := 10) (N := some 36) (v := ?_) (a' := ?_) #[true, true, true, true, true, true, true, true, true, false, true, false, false, false, false, false, false] rfl rfl (any_of HT_.out (by kernel_rfl)) (fun _ _ _ h => h) (Or.inl ⟨by rfl, ?_⟩) ?_ ?_
              rotate_left
              · intro w'
                go_simp
                with_reducible rfl
              rotate_left
              · simp only [Act.put, List.setIfInBounds_toArray, List.set_cons_zero, List.set_cons_succ, i64_w, i32_w]
                rfl
              refine take_ (i := 9) (N := some 35) (v := ?_) (a' := ?_) #[true, true, true, true, true, true, true, true, true, true, true, false, false, false, false, false, false] rfl rfl (take_ofW HT_.out HW_.out (by kernel_rfl)) (fun _ _ _ h => h) (Or.inl ⟨by rfl, ?_⟩) hHeld ?_ ?_
              rotate_left
              · intro w' s0
                go_simp
                with_reducible rfl
              rotate_left
              · simp only [Act.put, List.setIfInBounds_toArray, List.set_cons_zero, List.set_cons_succ, i64_w, i32_w]
                rfl
              refine one_ (i := 11) (N := some 37) #[true, true, true, true, true, true, true, true, true, true, true, true, false, false, false, false, false] rfl rfl (one_of HT_.out (by kernel_rfl)) (by decide) (fun K hK => ?_)
              refine goes_ Try.func45 (by kernel_rfl) rfl #[.pointer (some ⟨g, 0, none⟩), .int .i64 255] (by rfl) rfl rfl (by (try simp only [List.map_toArray, List.map_cons, List.map_nil]); first | done | rfl | (simp only [List.length_drop, List.length_take]; rfl)) ?_
              with_reducible refine (spec_l1Next.calls g s0_0 t195 t196 255 t206 t207 t208 w0 _ ?side1 ?side2 A31.out).mono ?_
              (case side1 => repeat (first | (with_reducible first | exact HI0.out | apply IsS75.alloc | apply IsS75.drewN | apply IsS75.drew | apply IsS75.set_1 | apply IsS75.set_2) | exact HI0.out))
              (case side2 => repeat (first | (with_reducible first | exact HB.out | apply below_alloc | apply pw_below_drewN | apply below_drew1 | refine below_set ?_ (IsS75.ge HI0.out)) | exact HB.out))
              rintro e w36 ⟨rfl, hi, hb, hk⟩
              have HS0_ := keep_cell hk (hHeld) (by first | (rw [add_block]; exact Kd.own_blk (IsS75.own_neM HI0.out HO1.out (by decide))) | (show (Addr.add _ _).block ≠ _; rw [add_block]; exact Kd.own_blk (IsS75.own_neM HI0.out HO1.out (by decide))) | exact Kd.own_blk (IsS75.own_neM HI0.out HO1.out (by decide)))
              refine ⟨_, rfl, ?_⟩
              have n0_ := Aside0.mk (MK.R_mono (MK.R_keep (IsS75.apartM (show IsS75 w0 _ g s0_0 t195 t196 from by repeat (first | (with_reducible first | exact HI0.out | apply IsS75.alloc | apply IsS75.drewN | apply IsS75.drew | apply IsS75.set_1 | apply IsS75.set_2) | exact HI0.out)) (by (with_reducible repeat (first | apply MK.R_alloc | apply MK.R_drewN | apply MK.R_drew)); exact HO1.out) (by decide)) hk (fun _ h => h.2)) (fun _ h => h.1))
              have n1_ := Aside0.mk (Kept.of_keep (S := (fun k_ => (P1_ k_) ∨ k_ = g)) (by repeat (first | (with_reducible first | exact HK.out | apply Kept.alloc | apply Kept.drewN | apply Kept.drew | refine Kept.setCell ?_ (.inl (.inr rfl)) _) | exact HK.out)) hk (.inl (.inr rfl)))
              have n2_ := Aside0.mk (hb)
              have n3_ := Aside0.mk (hi)
              clear HO1
              clear HK
              clear HB
              clear HI0
              have HO1 := n0_
              have HK := n1_
              have HB := n2_
              have HI0 := n3_
              clear n0_ n1_ n2_ n3_
              (try clear hb)
              (try clear hb2)
              (try clear hk)
              (try clear hi)
              have p32 : 0 ≤ ((ji28) : Int) := of_decide_eq_true (by first | (with_reducible assumption) | assumption)
              have q32 : ((ji28) : Int) < ((l1.length : Int) : Int) := of_decide_eq_true (by first | (with_reducible assumption) | assumption)
              obtain ⟨go32, co32, eo32, gb32, gl32, cl32, HG32⟩ := MK.R_form HO1.out (by omega)
              (first | cases eo32 | (injection eo32 with ea_ en_ ec_; (first | subst ea_ | (injection ea_ with ea_; subst ea_)); subst ec_; clear en_))
              have GB32 := Aside0.mk gb32
              have GG32 := Aside0.mk HG32
              clear gb32 gl32 HG32
              have HMgo32 := Aside0.mk (show (P1_ go32 ∨ w.heap.size ≤ go32) from (MK.R_ok HO1.out _ rfl))
              (first | simp only [add_plain] at hx205_0 | skip)
              obtain ⟨hx32_0, hf32_0⟩ := MK.R_celln 0 HO1.out ((ji28) : Int) p32 q32
              replace p32 := eq_true p32
              replace q32 := eq_true q32
              have HN0_go32 := Aside0.mk (show g ≠ go32 from by have h_ := IsS75.own_neM HI0.out HO1.out (by decide); intro e_; exact h_ (by rw [e_]; rfl))
              have HP37 := MK.R_putn HO1.out ((ji28) : Int) (Go.bits .xor .u8 (rd l1 (ji28)) ((wrap64 (1 + t206)) % 256))
              rw [← Ny209.out] at HP37
              have HQ37 := Aside0.mk HP37
              clear HP37
              refine hK.out _ _ (HS0_) (fun hHeld => ?_)
              clear hK K
              refine norm_ (a' := ?_) ?_ ?_
              rotate_left
              · show Act.put _ (some 37) _ = _
                simp only [Act.put, List.setIfInBounds_toArray, List.set_cons_zero, List.set_cons_succ, i64_w, i32_w]
                rfl
              refine pure_ (i := 12) (N := some 38) (v := ?_) (a' := ?_) #[true, true, true, true, true, true, true, true, true, true, true, true, true, false, false, false, false] rfl rfl (any_of HT_.out (by kernel_rfl)) (fun _ _ _ h => h) (Or.inl ⟨by rfl, ?_⟩) ?_ ?_
              rotate_left
              · intro w'
                go_simp
                with_reducible rfl
              rotate_left
              · simp only [Act.put, List.setIfInBounds_toArray, List.set_cons_zero, List.set_cons_succ, i64_w, i32_w]
                rfl
              refine pure_ (i := 13) (N := some 39) (v := ?_) (a' := ?_) #[true, true, true, true, true, true, true, true, true, true, true, true, true, true, false, false, false] rfl rfl (any_of HT_.out (by kernel_rfl)) (fun _ _ _ h => h) (Or.inl ⟨by rfl, ?_⟩) ?_ ?_
              rotate_left
              · intro w'
                go_simp
                with_reducible rfl
              rotate_left
              · simp only [Act.put, List.setIfInBounds_toArray, List.set_cons_zero, List.set_cons_succ, i64_w, i32_w]
                rfl
              refine pure_ (i := 14) (N := some 40) (v := ?_) (a' := ?_) #[true, true, true, true, true, true, true, true, true, true, true, true, true, true, true, false, false] rfl rfl (any_of HT_.out (by kernel_rfl)) (fun _ _ _ h => h) (Or.inl ⟨by rfl, ?_⟩) ?_ ?_
              rotate_left
              · intro w'
                go_simp
                with_reducible rfl
              rotate_left
              · simp only [Act.put, List.setIfInBounds_toArray, List.set_cons_zero, List.set_cons_succ, i64_w, i32_w]
                rfl
              refine pure_ (i := 15) (N := some 41) (v := ?_) (a' := ?_) #[true, true, true, true, true, true, true, true, true, true, true, true, true, true, true, true, false] rfl rfl (any_of HT_.out (by kernel_rfl)) (fun _ _ _ h => h) (Or.inl ⟨by rfl, ?_⟩) ?_ ?_
              rotate_left
              · intro w'
                go_simp
                with_reducible rfl
              rotate_left
              · simp only [Act.put, List.setIfInBounds_toArray, List.set_cons_zero, List.set_cons_succ, i64_w, i32_w]
                rfl
              refine last_ (i := 16) (N := none) #[true, true, true, true, true, true, true, true, true, true, true, true, true, true, true, true, true] rfl rfl (one_of HT_.out (by kernel_rfl)) (by decide) (fun K hK => ?_)
              refine skip_ (w1 := ?_) (by rfl) rfl ?_ ?_
              rotate_left
              · go_simp
                rfl
              refine hK.out _ _ ?_
              clear hK K
              refine done_ (done_of HT_.out (by kernel_rfl)) ?_
              try go_wp2
              go_meet
              case rel => exact ⟨_, (y209), (t207), (t208), H', ⟨by first | omega | exact Nat.le_refl _⟩, ⟨by (with_reducible repeat (first | apply MK.R_alloc | apply MK.R_drewN | apply MK.R_drew)); exact HQ37.out⟩, ⟨by repeat (first | (with_reducible first | exact HI0.out | apply IsS75.alloc | apply IsS75.drewN | apply IsS75.drew | apply IsS75.set_1 | apply IsS75.set_2 | refine IsS75.far ?_ HN0_go32.out _) | exact HI0.out)⟩, ⟨by repeat (first | (with_reducible first | exact HK.out | apply Kept.alloc | apply Kept.drewN | apply Kept.drew | refine Kept.setCell ?_ (Or.imp_left Or.inl HMgo32.out) _ | refine Kept.setCell ?_ (.inl (.inr rfl)) _) | exact HK.out)⟩, ⟨by repeat (first | (with_reducible first | exact HB.out | apply below_alloc | apply pw_below_drewN | apply below_drew1 | refine below_set ?_ GB32.out | refine below_set ?_ (IsS75.ge HI0.out)) | exact HB.out)⟩⟩
            · rw [if_neg c30] at H
              exact absurd H (by simp)
          · rw [if_neg c29] at H
            exact absurd H (by simp)
      · rw [if_neg c12] at H
        have c12b0 : decide (t183 < 3) = false := decide_eq_false c12
        clear c12
        (first | rw [c12b0] | (simp only [i64_w, i32_w]; rw [c12b0]) | skip)
        have H' := Aside0.mk H
        clear H
        go_wp2
        go_meet
        case rel => exact ⟨_, (l1), (t184), (t185), H', ⟨by first | omega | exact Nat.le_refl _⟩, ⟨by (with_reducible repeat (first | apply MK.R_alloc | apply MK.R_drewN | apply MK.R_drew)); exact HO1.out⟩, ⟨by repeat (first | (with_reducible first | exact HI0.out | apply IsS75.alloc | apply IsS75.drewN | apply IsS75.drew | apply IsS75.set_1 | apply IsS75.set_2) | exact HI0.out)⟩, ⟨by repeat (first | (with_reducible first | exact HK.out | apply Kept.alloc | apply Kept.drewN | apply Kept.drew | refine Kept.setCell ?_ (.inl (.inr rfl)) _) | exact HK.out)⟩, ⟨by repeat (first | (with_reducible first | exact HB.out | apply below_alloc | apply pw_below_drewN | apply below_drew1 | refine below_set ?_ (IsS75.ge HI0.out)) | exact HB.out)⟩⟩
    case rest =>
      clear HC9
      try clear c1
      try clear c2
      try clear p2
      try clear q2
      try clear hx2
      try clear hf2
      try clear c3
      try clear p3
      try clear q3
      try clear hx3
      try clear hf3
      try clear c4
      try clear c4b0
      try clear c4b1
      try clear c4b2
      try clear c5
      try clear p6
      try clear c12
      try clear c12b0
      try clear c15
      try clear c18
      try clear c18b0
      try clear c19
      try clear c19b0
      try clear p20
      try clear q20
      try clear hx20
      try clear p21
      try clear q21
      try clear hx21
      try clear hf21
      try clear c29
      try clear c29b0
      try clear c30
      try clear c30b0
      try clear p32
      try clear q32
      try clear hx32
      try clear hf32
      try clear hx200_0
      try clear hx205_0
      try clear hx21_0
      try clear hx32_0
      try clear p200
      try clear p205
      try clear p21
      try clear p32
      try clear q200
      try clear q205
      try clear q21
      try clear q32
      obtain ⟨kq, x1_8, x1001_8, x1002_8, HA, HJ8, HO_1, HI0, HK, HB⟩ := hcut
      have hl1_8 := (MK.R_reads' HO_1.out).1
      rw [hl1_8] at HO_1
      (try simp only [hl1_8])
      cases kq with
      | zero => exact absurd HA.out (by simp [spec_l3Turn.j0])
      | succ kj8 =>
        have H := HA.out
        clear HA
        simp only [spec_l3Turn.j0] at H
        have HC38 := Aside0.mk H
        clear H
        go_upto_region 10 with (fail)
        go_cut [47] (fun v47 wc => ∃ (kq : Nat) (x47_37 : Bool) (x1001_37 : Int) (x1002_37 : Int), v47 = .bool x47_37 ∧ Aside0 (spec_l3Turn.j1 kq x1_8 t183 (l1.length : Int) x47_37 s0_0 x1001_37 x1002_37 = some (r1, r2, r3)) ∧ Aside0 (kq ≤ kj8) ∧ Aside0 (MK.R 5 wc w0.heap.size (fun k_ => (P1_ k_ ∨ w.heap.size ≤ k_)) (.slice Ao11 x1_8.length co11) x1_8) ∧ Aside0 (IsS75 w0 wc g s0_0 x1001_37 x1002_37) ∧ Aside0 (Kept w wc (fun k_ => (P1_ k_) ∨ k_ = g)) ∧ Aside0 (Below w0.heap.size w0 wc))
        case first =>
          have H := HC38.out
          clear HC38
          by_cases c39 : t183 = 3
          · rw [if_pos c39] at H
            have c39b0 : (t183 == 3) = true := beq_iff_eq.mpr c39
            have c39b1 : (t183 != 3) = false := bne_eq_false_iff_eq.mpr c39
            clear c39
            (first | rw [c39b0] | (simp only [i64_w, i32_w]; rw [c39b0]) | skip)
            replace H := Option.bind_eq_some_iff.mp H
            obtain ⟨⟨t210, t211, t212⟩, A400, H⟩ := H
            replace H : (spec_l3Turn.j1 kj8 x1_8 t183 (l1.length : Int) t210 s0_0 t211 t212) = some (r1, r2, r3) := H
            have A40 := Aside0.mk A400
            clear A400
            have H' := Aside0.mk H
            clear H
            go_wp2_with (first | (go_at_call 47; (with_reducible refine (spec_l1Chance.calls g s0_0 x1001_8 x1002_8 2 t210 t211 t212 w0 _ ?side1 ?side2 A40.out).mono ?_); (case side1 => repeat (first | (with_reducible first | exact HI0.out | apply IsS75.alloc | apply IsS75.drewN | apply IsS75.drew | apply IsS75.set_1 | apply IsS75.set_2) | exact HI0.out)); (case side2 => repeat (first | (with_reducible first | exact HB.out | apply below_alloc | apply pw_below_drewN | apply below_drew1 | refine below_set ?_ (IsS75.ge HI0.out)) | exact HB.out)); rintro e w41 ⟨rfl, hi, hb, hk⟩; have n0_ := Aside0.mk (MK.R_mono (MK.R_keep (IsS75.apartM (show IsS75 w0 _ g s0_0 x1001_8 x1002_8 from by repeat (first | (with_reducible first | exact HI0.out | apply IsS75.alloc | apply IsS75.drewN | apply IsS75.drew | apply IsS75.set_1 | apply IsS75.set_2) | exact HI0.out)) (by (with_reducible repeat (first | apply MK.R_alloc | apply MK.R_drewN | apply MK.R_drew)); exact HO_1.out) (by decide)) hk (fun _ h => h.2)) (fun _ h => h.1)); have n1_ := Aside0.mk (Kept.of_keep (S := (fun k_ => (P1_ k_) ∨ k_ = g)) (by repeat (first | (with_reducible first | exact HK.out | apply Kept.alloc | apply Kept.drewN | apply Kept.drew | refine Kept.setCell ?_ (.inl (.inr rfl)) _) | exact HK.out)) hk (.inl (.inr rfl))); have n2_ := Aside0.mk (hb); have n3_ := Aside0.mk (hi); clear HO_1; clear HK; clear HB; clear HI0; have HO_1 := n0_; have HK := n1_; have HB := n2_; have HI0 := n3_; clear n0_ n1_ n2_ n3_; (try clear hb); (try clear hb2); (try clear hk); (try clear hi)))
            go_meet
            case rel => exact ⟨_, (t210), (t211), (t212), (by first | rfl | (simp; done) | (simp [*]; done)), H', ⟨by have := HJ8.out; first | omega | exact Nat.le_refl _⟩, ⟨by (try simp only [hl1_8]); (with_reducible repeat (first | apply MK.R_alloc | apply MK.R_drewN | apply MK.R_drew)); exact HO_1.out⟩, ⟨by repeat (first | (with_reducible first | exact HI0.out | apply IsS75.alloc | apply IsS75.drewN | apply IsS75.drew | apply IsS75.set_1 | apply IsS75.set_2) | exact HI0.out)⟩, ⟨by repeat (first | (with_reducible first | exact HK.out | apply Kept.alloc | apply Kept.drewN | apply Kept.drew | refine Kept.setCell ?_ (.inl (.inr rfl)) _) | exact HK.out)⟩, ⟨by repeat (first | (with_reducible first | exact HB.out | apply below_alloc | apply pw_below_drewN | apply below_drew1 | refine below_set ?_ (IsS75.ge HI0.out)) | exact HB.out)⟩⟩
          · rw [if_neg c39] at H
            have c39b0 : (t183 == 3) = false := beq_eq_false_iff_ne.mpr c39
            have c39b1 : (t183 != 3) = true := bne_iff_ne.mpr c39
            (first | rw [c39b0] | (simp only [i64_w, i32_w]; rw [c39b0]) | skip)
            have H' := Aside0.mk H
            clear H
            go_wp2
            go_meet
            case rel => exact ⟨_, (false), (x1001_8), (x1002_8), (by first | rfl | (simp; done) | (simp [*]; done)), H', ⟨by have := HJ8.out; first | omega | exact Nat.le_refl _⟩, ⟨by (try simp only [hl1_8]); (with_reducible repeat (first | apply MK.R_alloc | apply MK.R_drewN | apply MK.R_drew)); exact HO_1.out⟩, ⟨by repeat (first | (with_reducible first | exact HI0.out | apply IsS75.alloc | apply IsS75.drewN | apply IsS75.drew | apply IsS75.set_1 | apply IsS75.set_2) | exact HI0.out)⟩, ⟨by repeat (first | (with_reducible first | exact HK.out | apply Kept.alloc | apply Kept.drewN | apply Kept.drew | refine Kept.setCell ?_ (.inl (.inr rfl)) _) | exact HK.out)⟩, ⟨by repeat (first | (with_reducible first | exact HB.out | apply below_alloc | apply pw_below_drewN | apply below_drew1 | refine below_set ?_ (IsS75.ge HI0.out)) | exact HB.out)⟩⟩
        case rest =>
          clear HC38
          try clear c1
          try clear c2
          try clear p2
          try clear q2
          try clear hx2
          try clear hf2
          try clear c3
          try clear p3
          try clear q3
          try clear hx3
          try clear hf3
          try clear c4
          try clear c4b0
          try clear c4b1
          try clear c4b2
          try clear c5
          try clear p6
          try clear c12
          try clear c12b0
          try clear c15
          try clear c18
          try clear c18b0
          try clear c19
          try clear c19b0
          try clear p20
          try clear q20
          try clear hx20
          try clear p21
          try clear q21
          try clear hx21
          try clear hf21
          try clear c29
          try clear c29b0
          try clear c30
          try clear c30b0
          try clear p32
          try clear q32
          try clear hx32
          try clear hf32
          try clear c39
          try clear c39b0
          try clear c39b1
          try clear hx200_0
          try clear hx205_0
          try clear hx21_0
          try clear hx32_0
          try clear p2
          try clear p20
          try clear p200
          try clear p205
          try clear p21
          try clear p3
          try clear p32
          try clear p6
          try clear q2
          try clear q20
          try clear q200
          try clear q205
          try clear q21
          try clear q3
          try clear q32
          obtain ⟨kq, x47_37, x1001_37, x1002_37, rfl, HA, HJ37, HO_1, HI0, HK, HB⟩ := hcut
          cases kq with
          | zero => exact absurd HA.out (by simp [spec_l3Turn.j1])
          | succ kj37 =>
            have H := HA.out
            clear HA
            simp only [spec_l3Turn.j1] at H
            by_cases c42 : x47_37 = true
            · subst c42
              have H1 : (if 0 ≤ (wrap64 ((l1.length : Int) - 1)) then (if (wrap64 ((l1.length : Int) - 1)) ≤ (x1_8.length : Int) then (some ((x1_8.take ((wrap64 ((l1.length : Int) - 1)) : Int).toNat), x1001_37, x1002_37)) else (none)) else (none)) = some (r1, r2, r3) := by rw [if_pos rfl] at H; exact H
              clear H
              have H := H1
              clear H1
              obtain ⟨ji43, hji43⟩ : ∃ j_ : Int, (wrap64 ((l1.length : Int) - 1)) = j_ := ⟨_, rfl⟩
              replace H : (if 0 ≤ (ji43) then (if (ji43) ≤ (x1_8.length : Int) then (some ((x1_8.take ((ji43) : Int).toNat), x1001_37, x1002_37)) else (none)) else (none)) = some (r1, r2, r3) := by first | (rw [hji43] at H; exact H) | (simp only [hji43] at H ⊢; exact H)
              have hji43w : (IntKind.i64.wrap ((l1.length : Int) - 1)) = ji43 := (i64_w _).trans hji43
              by_cases c44 : 0 ≤ (ji43)
              · rw [if_pos c44] at H
                have c44b0 := eq_true c44
                have c44b1 : decide (0 ≤ (ji43)) = true := decide_eq_true c44
                clear c44
                by_cases c45 : (ji43) ≤ (x1_8.length : Int)
                · rw [if_pos c45] at H
                  have c45b0 := eq_true c45
                  have c45b1 : decide ((ji43) ≤ (x1_8.length : Int)) = true := decide_eq_true c45
                  clear c45
                  obtain ⟨y213, hy213⟩ : ∃ y_ : List Int, y_ = (x1_8.take ((ji43) : Int).toNat) := ⟨_, rfl⟩
                  replace H : (some (y213, x1001_37, x1002_37)) = some (r1, r2, r3) := by first | (rw [hy213]; with_reducible exact H) | (have H2_ := (Option.bind_some _ _).symm.trans H; rw [hy213]; with_reducible exact H2_) | (have H2_ := (Option.bind_some _ _).symm.trans H; with_reducible exact H2_) | with_reducible exact H | (rw [hy213]; exact H) | exact H
                  have Ny213 := Aside0.mk hy213
                  clear hy213
                  simp only [Option.some.injEq, Prod.mk.injEq] at H
                  obtain ⟨rfl, rfl, rfl⟩ := H
                  have q46 : ((ji43) : Int) ≤ ((x1_8.length : Int) : Int) := of_decide_eq_true (by first | (with_reducible assumption) | assumption)
                  obtain ⟨i046, hi046, _, hsz46, _⟩ := info_parts info5
                  have hcut46 := cut_to (P := Try.prog) 22 5 .i64 Try.underlying22 hi046 Ao11 x1_8.length co11 (ji43) (of_decide_eq_true (by first | (with_reducible assumption) | assumption)) q46 (MK.R_reads' HO_1.out).2.1
                  have hjx_ := hji43; rw [hl1_8] at hjx_
                  have hjy_ := hji43w; rw [hl1_8] at hjy_
                  have hr46 := MK.R_take (m := ((ji43) : Int).toNat) HO_1.out (by omega)
                  have hy46 : y213.length = ((ji43) : Int).toNat := (by rw [Ny213.out, List.length_take]; omega)
                  rw [← Ny213.out] at hr46
                  rw [← hy46] at hr46 hcut46
                  clear hy46 hi046 hsz46 HO_1
                  have HO215 := Aside0.mk hr46
                  clear hr46
                  replace q46 := eq_true q46
                  go_wp2
                  go_ret
                  exact ⟨_, by first | rfl | (simp [errW_none, errW_some] <;> rfl) | (simp only [← hji43]; first | rfl | (simp [errW_none, errW_some] <;> rfl)) | (simp [*, errW_none, errW_some] <;> rfl), by (with_reducible repeat (first | apply MK.R_alloc | apply MK.R_drewN | apply MK.R_drew)); exact HO215.out, by repeat (first | (with_reducible first | exact HI0.out | apply IsS75.alloc | apply IsS75.drewN | apply IsS75.drew | apply IsS75.set_1 | apply IsS75.set_2) | exact HI0.out), by repeat (first | (with_reducible first | exact HB.out | apply below_alloc | apply pw_below_drewN | apply below_drew1 | refine below_set ?_ (IsS75.ge HI0.out)) | exact HB.out), by repeat (first | (with_reducible first | exact HK.out | apply Kept.alloc | apply Kept.drewN | apply Kept.drew | refine Kept.setCell ?_ (.inl (.inr rfl)) _) | exact HK.out)⟩
                · rw [if_neg c45] at H
                  exact absurd H (by simp)
              · rw [if_neg c44] at H
                exact absurd H (by simp)
            · replace c42 := Bool.eq_false_iff.mpr c42
              subst c42
              have H1 : (if t183 = 4 then ((spec_l1Chance.f s0_0 x1001_37 x1002_37 2).bind fun bt216 => (spec_l3Turn.j2 kj37 x1_8 t183 bt216.1 s0_0 bt216.2.1 bt216.2.2)) else (spec_l3Turn.j2 kj37 x1_8 t183 false s0_0 x1001_37 x1002_37)) = some (r1, r2, r3) := by rw [if_neg (show ¬ (false = true) by decide)] at H; exact H
              clear H
              have H := H1
              clear H1
              have HC47 := Aside0.mk H
              clear H
              go_upto_region 12 with (fail)
              go_cut [57] (fun v57 wc => ∃ (kq : Nat) (x57_46 : Bool) (x1001_46 : Int) (x1002_46 : Int), v57 = .bool x57_46 ∧ Aside0 (spec_l3Turn.j2 kq x1_8 t183 x57_46 s0_0 x1001_46 x1002_46 = some (r1, r2, r3)) ∧ Aside0 (kq ≤ kj37) ∧ Aside0 (MK.R 5 wc w0.heap.size (fun k_ => (P1_ k_ ∨ w.heap.size ≤ k_)) (.slice Ao11 x1_8.length co11) x1_8) ∧ Aside0 (IsS75 w0 wc g s0_0 x1001_46 x1002_46) ∧ Aside0 (Kept w wc (fun k_ => (P1_ k_) ∨ k_ = g)) ∧ Aside0 (Below w0.heap.size w0 wc))
              case first =>
                have H := HC47.out
                clear HC47
                by_cases c48 : t183 = 4
                · rw [if_pos c48] at H
                  have c48b0 : (t183 == 4) = true := beq_iff_eq.mpr c48
                  have c48b1 : (t183 != 4) = false := bne_eq_false_iff_eq.mpr c48
                  clear c48
                  (first | rw [c48b0] | (simp only [i64_w, i32_w]; rw [c48b0]) | skip)
                  replace H := Option.bind_eq_some_iff.mp H
                  obtain ⟨⟨t216, t217, t218⟩, A490, H⟩ := H
                  replace H : (spec_l3Turn.j2 kj37 x1_8 t183 t216 s0_0 t217 t218) = some (r1, r2, r3) := H
                  have A49 := Aside0.mk A490
                  clear A490
                  have H' := Aside0.mk H
                  clear H
                  go_wp2_with (first | (go_at_call 47; (with_reducible refine (spec_l1Chance.calls g s0_0 x1001_37 x1002_37 2 t216 t217 t218 w0 _ ?side1 ?side2 A49.out).mono ?_); (case side1 => repeat (first | (with_reducible first | exact HI0.out | apply IsS75.alloc | apply IsS75.drewN | apply IsS75.drew | apply IsS75.set_1 | apply IsS75.set_2) | exact HI0.out)); (case side2 => repeat (first | (with_reducible first | exact HB.out | apply below_alloc | apply pw_below_drewN | apply below_drew1 | refine below_set ?_ (IsS75.ge HI0.out)) | exact HB.out)); rintro e w50 ⟨rfl, hi, hb, hk⟩; have n0_ := Aside0.mk (MK.R_mono (MK.R_keep (IsS75.apartM (show IsS75 w0 _ g s0_0 x1001_37 x1002_37 from by repeat (first | (with_reducible first | exact HI0.out | apply IsS75.alloc | apply IsS75.drewN | apply IsS75.drew | apply IsS75.set_1 | apply IsS75.set_2) | exact HI0.out)) (by (with_reducible repeat (first | apply MK.R_alloc | apply MK.R_drewN | apply MK.R_drew)); exact HO_1.out) (by decide)) hk (fun _ h => h.2)) (fun _ h => h.1)); have n1_ := Aside0.mk (Kept.of_keep (S := (fun k_ => (P1_ k_) ∨ k_ = g)) (by repeat (first | (with_reducible first | exact HK.out | apply Kept.alloc | apply Kept.drewN | apply Kept.drew | refine Kept.setCell ?_ (.inl (.inr rfl)) _) | exact HK.out)) hk (.inl (.inr rfl))); have n2_ := Aside0.mk (hb); have n3_ := Aside0.mk (hi); clear HO_1; clear HK; clear HB; clear HI0; have HO_1 := n0_; have HK := n1_; have HB := n2_; have HI0 := n3_; clear n0_ n1_ n2_ n3_; (try clear hb); (try clear hb2); (try clear hk); (try clear hi)))
                  go_meet
                  case rel => exact ⟨_, (t216), (t217), (t218), (by first | rfl | (simp; done) | (simp [*]; done)), H', ⟨by have := HJ8.out; have := HJ37.out; first | omega | exact Nat.le_refl _⟩, ⟨by (try simp only [hl1_8]); (with_reducible repeat (first | apply MK.R_alloc | apply MK.R_drewN | apply MK.R_drew)); exact HO_1.out⟩, ⟨by repeat (first | (with_reducible first | exact HI0.out | apply IsS75.alloc | apply IsS75.drewN | apply IsS75.drew | apply IsS75.set_1 | apply IsS75.set_2) | exact HI0.out)⟩, ⟨by repeat (first | (with_reducible first | exact HK.out | apply Kept.alloc | apply Kept.drewN | apply Kept.drew | refine Kept.setCell ?_ (.inl (.inr rfl)) _) | exact HK.out)⟩, ⟨by repeat (first | (with_reducible first | exact HB.out | apply below_alloc | apply pw_below_drewN | apply below_drew1 | refine below_set ?_ (IsS75.ge HI0.out)) | exact HB.out)⟩⟩
                · rw [if_neg c48] at H
                  have c48b0 : (t183 == 4) = false := beq_eq_false_iff_ne.mpr c48
                  have c48b1 : (t183 != 4) = true := bne_iff_ne.mpr c48
                  (first | rw [c48b0] | (simp only [i64_w, i32_w]; rw [c48b0]) | skip)
                  have H' := Aside0.mk H
                  clear H
                  go_wp2
                  go_meet
                  case rel => exact ⟨_, (false), (x1001_37), (x1002_37), (by first | rfl | (simp; done) | (simp [*]; done)), H', ⟨by have := HJ8.out; have := HJ37.out; first | omega | exact Nat.le_refl _⟩, ⟨by (try simp only [hl1_8]); (with_reducible repeat (first | apply MK.R_alloc | apply MK.R_drewN | apply MK.R_drew)); exact HO_1.out⟩, ⟨by repeat (first | (with_reducible first | exact HI0.out | apply IsS75.alloc | apply IsS75.drewN | apply IsS75.drew | apply IsS75.set_1 | apply IsS75.set_2) | exact HI0.out)⟩, ⟨by repeat (first | (with_reducible first | exact HK.out | apply Kept.alloc | apply Kept.drewN | apply Kept.drew | refine Kept.setCell ?_ (.inl (.inr rfl)) _) | exact HK.out)⟩, ⟨by repeat (first | (with_reducible first | exact HB.out | apply below_alloc | apply pw_below_drewN | apply below_drew1 | refine below_set ?_ (IsS75.ge HI0.out)) | exact HB.out)⟩⟩
              case rest =>
                clear HC47
                try clear c1
                try clear c2
                try clear p2
                try clear q2
                try clear hx2
                try clear hf2
                try clear c3
                try clear p3
                try clear q3
                try clear hx3
                try clear hf3
                try clear c4
                try clear c4b0
                try clear c4b1
                try clear c4b2
                try clear q4
                try clear c5
                try clear p6
                try clear c12
                try clear c12b0
                try clear c15
                try clear c18
                try clear c18b0
                try clear c19
                try clear c19b0
                try clear p20
                try clear q20
                try clear hx20
                try clear p21
                try clear q21
                try clear hx21
                try clear hf21
                try clear c29
                try clear c29b0
                try clear c30
                try clear c30b0
                try clear p32
                try clear q32
                try clear hx32
                try clear hf32
                try clear c39
                try clear c39b0
                try clear c39b1
                try clear c42
                try clear c44
                try clear c44b0
                try clear c44b1
                try clear c45
                try clear c45b0
                try clear c45b1
                try clear q46
                try clear c47
                try clear c48
                try clear c48b0
                try clear c48b1
                try clear hx200_0
                try clear hx205_0
                try clear hx21_0
                try clear hx32_0
                try clear p2
                try clear p20
                try clear p200
                try clear p205
                try clear p21
                try clear p3
                try clear p32
                try clear p6
                try clear q2
                try clear q20
                try clear q200
                try clear q205
                try clear q21
                try clear q3
                try clear q32
                try clear q46
                obtain ⟨kq, x57_46, x1001_46, x1002_46, rfl, HA, HJ46, HO_1, HI0, HK, HB⟩ := hcut
                cases kq with
                | zero => exact absurd HA.out (by simp [spec_l3Turn.j2])
                | succ kj46 =>
                  have H := HA.out
                  clear HA
                  simp only [spec_l3Turn.j2] at H
                  by_cases c51 : x57_46 = true
                  · subst c51
                    have H1 : (if x1_8.length < 140737488355328 then (some ((x1_8 ++ [0]), x1001_46, x1002_46)) else (none)) = some (r1, r2, r3) := by rw [if_pos rfl] at H; exact H
                    clear H
                    have H := H1
                    clear H1
                    by_cases c52 : x1_8.length < 140737488355328
                    · rw [if_pos c52] at H
                      have LMc52 := Aside0.mk c52
                      clear c52
                      obtain ⟨y219, hy219⟩ : ∃ y_ : List Int, y_ = (x1_8 ++ [0]) := ⟨_, rfl⟩
                      replace H : (some (y219, x1001_46, x1002_46)) = some (r1, r2, r3) := by first | (rw [hy219]; with_reducible exact H) | (have H2_ := (Option.bind_some _ _).symm.trans H; rw [hy219]; with_reducible exact H2_) | (have H2_ := (Option.bind_some _ _).symm.trans H; with_reducible exact H2_) | with_reducible exact H | (rw [hy219]; exact H) | exact H
                      have Ny219 := Aside0.mk hy219
                      clear hy219
                      simp only [Option.some.injEq, Prod.mk.injEq] at H
                      obtain ⟨rfl, rfl, rfl⟩ := H
                      go_wp2_with (first | ((with_reducible refine gate_builtin (b := .append) (xs := #[.tmp 58, .tmp 59]) rfl ?_); at_builtin; refine MK.R_append (w0 := w0) w0.heap.size rfl (.tmp 58) (.tmp 59) 22 5 rfl Try.underlying22 info5 (.slice Ao11 x1_8.length co11) x1_8 0 (fun k_ => (P1_ k_ ∨ w.heap.size ≤ k_)) rfl rfl ?aF ?aN ?aO ?aB ?aS ?aL ?_; (case aN => exact (by intro e_; exact HNE.out (List.eq_nil_of_length_eq_zero (by rw [hl1_8, e_]; rfl)))); (case aB => exact (by repeat (first | (with_reducible first | exact HB.out | apply below_alloc | apply pw_below_drewN | apply below_drew1 | refine below_set ?_ (IsS75.ge HI0.out)) | exact HB.out))); (case aF => exact (fun k_ hk => (.inr (Nat.le_trans (by first | exact HK.out.1 | exact (show Kept w _ (fun k_ => (P1_ k_) ∨ k_ = g) from by repeat (first | (with_reducible first | exact HK.out | apply Kept.alloc | apply Kept.drewN | apply Kept.drew | refine Kept.setCell ?_ (.inl (.inr rfl)) _) | exact HK.out)).1) hk)))); (case aO => exact (by (with_reducible repeat (first | apply MK.R_alloc | apply MK.R_drewN | apply MK.R_drew)); exact HO_1.out)); (case aS => exact (below_size (by repeat (first | (with_reducible first | exact HB.out | apply below_alloc | apply pw_below_drewN | apply below_drew1 | refine below_set ?_ (IsS75.ge HI0.out)) | exact HB.out)))); (case aL => have := LMc52.out; omega); intro v220 w53 ho hb hg; have hat := True.intro; rw [← Ny219.out] at ho; have n0_ := Aside0.mk (IsS75.grown (by repeat (first | (with_reducible first | exact HI0.out | apply IsS75.alloc | apply IsS75.drewN | apply IsS75.drew | apply IsS75.set_1 | apply IsS75.set_2) | exact HI0.out)) hg (IsS75.own_neM HI0.out HO_1.out (by decide))); have n1_ := Aside0.mk (hb); have n2_ := Aside0.mk (Kept.of_grown (S := (fun k_ => (P1_ k_) ∨ k_ = g)) hg (by repeat (first | (with_reducible first | exact HK.out | apply Kept.alloc | apply Kept.drewN | apply Kept.drew | refine Kept.setCell ?_ (.inl (.inr rfl)) _) | exact HK.out)) (fun k_ e_ => Or.imp_left Or.inl ((MK.R_ok HO_1.out k_ e_)))); have n3_ := Aside0.mk (ho); clear HI0; clear HB; clear HK; clear HO_1; have HI0 := n0_; have HB := n1_; have HK := n2_; have HO221 := n3_; clear n0_ n1_ n2_ n3_; clear ho hb hg hat))
                      go_ret
                      exact ⟨_, by first | rfl | (simp [errW_none, errW_some] <;> rfl) | (simp [*, errW_none, errW_some] <;> rfl), by (with_reducible repeat (first | apply MK.R_alloc | apply MK.R_drewN | apply MK.R_drew)); exact HO221.out, by repeat (first | (with_reducible first | exact HI0.out | apply IsS75.alloc | apply IsS75.drewN | apply IsS75.drew | apply IsS75.set_1 | apply IsS75.set_2) | exact HI0.out), by repeat (first | (with_reducible first | exact HB.out | apply below_alloc | apply pw_below_drewN | apply below_drew1 | refine below_set ?_ (IsS75.ge HI0.out)) | exact HB.out), by repeat (first | (with_reducible first | exact HK.out | apply Kept.alloc | apply Kept.drewN | apply Kept.drew | refine Kept.setCell ?_ (.inl (.inr rfl)) _) | exact HK.out)⟩
                    · rw [if_neg c52] at H
                      exact absurd H (by simp)
                  · replace c51 := Bool.eq_false_iff.mpr c51
                    subst c51
                    have H1 : (if t183 = 5 then ((spec_l1Chance.f s0_0 x1001_46 x1002_46 3).bind fun bt222 => (if bt222.1 = true then ((spec_l1Fill.f kj46 s0_0 bt222.2.1 bt222.2.2).bind fun bt225 => (some (bt225.1, bt225.2.1, bt225.2.2))) else (some (x1_8, bt222.2.1, bt222.2.2)))) else (some (x1_8, x1001_46, x1002_46))) = some (r1, r2, r3) := by rw [if_neg (show ¬ (false = true) by decide)] at H; exact H
                    clear H
                    have H := H1
                    clear H1
                    by_cases c54 : t183 = 5
                    · rw [if_pos c54] at H
                      have c54b0 : (t183 == 5) = true := beq_iff_eq.mpr c54
                      have c54b1 : (t183 != 5) = false := bne_eq_false_iff_eq.mpr c54
                      clear c54
                      replace H := Option.bind_eq_some_iff.mp H
                      obtain ⟨⟨t222, t223, t224⟩, A550, H⟩ := H
                      replace H : (if t222 = true then ((spec_l1Fill.f kj46 s0_0 t223 t224).bind fun bt225 => (some (bt225.1, bt225.2.1, bt225.2.2))) else (some (x1_8, t223, t224))) = some (r1, r2, r3) := H
                      have A55 := Aside0.mk A550
                      clear A550
                      by_cases c56 : t222 = true
                      · subst c56
                        have H1 : ((spec_l1Fill.f kj46 s0_0 t223 t224).bind fun bt225 => (some (bt225.1, bt225.2.1, bt225.2.2))) = some (r1, r2, r3) := by rw [if_pos rfl] at H; exact H
                        clear H
                        have H := H1
                        clear H1
                        replace H := Option.bind_eq_some_iff.mp H
                        obtain ⟨⟨t225, t228, t229⟩, A570, H⟩ := H
                        replace H : (some (t225, t228, t229)) = some (r1, r2, r3) := H
                        have A57 := Aside0.mk A570
                        clear A570
                        simp only [Option.some.injEq, Prod.mk.injEq] at H
                        obtain ⟨rfl, rfl, rfl⟩ := H
                        go_wp2_with (first | (go_at_call 47; (with_reducible refine (spec_l1Chance.calls g s0_0 x1001_46 x1002_46 3 true t223 t224 w0 _ ?side1 ?side2 A55.out).mono ?_); (case side1 => repeat (first | (with_reducible first | exact HI0.out | apply IsS75.alloc | apply IsS75.drewN | apply IsS75.drew | apply IsS75.set_1 | apply IsS75.set_2) | exact HI0.out)); (case side2 => repeat (first | (with_reducible first | exact HB.out | apply below_alloc | apply pw_below_drewN | apply below_drew1 | refine below_set ?_ (IsS75.ge HI0.out)) | exact HB.out)); rintro e w58 ⟨rfl, hi, hb, hk⟩; have n0_ := Aside0.mk (MK.R_mono (MK.R_keep (IsS75.apartM (show IsS75 w0 _ g s0_0 x1001_46 x1002_46 from by repeat (first | (with_reducible first | exact HI0.out | apply IsS75.alloc | apply IsS75.drewN | apply IsS75.drew | apply IsS75.set_1 | apply IsS75.set_2) | exact HI0.out)) (by (with_reducible repeat (first | apply MK.R_alloc | apply MK.R_drewN | apply MK.R_drew)); exact HO_1.out) (by decide)) hk (fun _ h => h.2)) (fun _ h => h.1)); have n1_ := Aside0.mk (Kept.of_keep (S := (fun k_ => (P1_ k_) ∨ k_ = g)) (by repeat (first | (with_reducible first | exact HK.out | apply Kept.alloc | apply Kept.drewN | apply Kept.drew | refine Kept.setCell ?_ (.inl (.inr rfl)) _) | exact HK.out)) hk (.inl (.inr rfl))); have n2_ := Aside0.mk (hb); have n3_ := Aside0.mk (hi); clear HO_1; clear HK; clear HB; clear HI0; have HO_1 := n0_; have HK := n1_; have HB := n2_; have HI0 := n3_; clear n0_ n1_ n2_ n3_; (try clear hb); (try clear hb2); (try clear hk); (try clear hi)) | ((with_reducible refine gate_callee (f := 54) rfl ?_); refine goesL_ (some 68) rfl rfl Try.func54 (by kernel_rfl) rfl #[.pointer (some ⟨g, 0, none⟩)] rfl (by (try simp only [List.map_toArray, List.map_cons, List.map_nil]); first | done | rfl | (simp only [List.length_drop, List.length_take]; rfl)) ?_; (with_reducible refine (spec_l1Fill.calls kj46 g s0_0 t223 t224 t225 t228 t229 w0 _ ?side1 ?side2 A57.out).mono ?_); (case side1 => repeat (first | (with_reducible first | exact HI0.out | apply IsS75.alloc | apply IsS75.drewN | apply IsS75.drew | apply IsS75.set_1 | apply IsS75.set_2) | exact HI0.out)); (case side2 => repeat (first | (with_reducible first | exact HB.out | apply below_alloc | apply pw_below_drewN | apply below_drew1 | refine below_set ?_ (IsS75.ge HI0.out)) | exact HB.out)); rintro e w59 ⟨v226, rfl, ho0, hi, hb, hk⟩; refine ⟨_, rfl, ?_⟩; have n0_ := Aside0.mk (MK.R_mono (MK.R_told (MK.R_oldK (IsS75.apartM (show IsS75 w0 _ g s0_0 t223 t224 from by repeat (first | (with_reducible first | exact HI0.out | apply IsS75.alloc | apply IsS75.drewN | apply IsS75.drew | apply IsS75.set_1 | apply IsS75.set_2) | exact HI0.out)) (by (with_reducible repeat (first | apply MK.R_alloc | apply MK.R_drewN | apply MK.R_drew)); exact HO_1.out) (by decide)) hk) (Kd.R_base ho0)) (fun _ h_ => h_.1)); have n1_ := Aside0.mk (MK.of_R (Kd.R_lower (Kd.R_new' (Kd.R_newM (M := fun k_ => (P1_ k_ ∨ w.heap.size ≤ k_)) ho0 (by first | exact HK.out.1 | exact (show Kept w _ (fun k_ => (P1_ k_) ∨ k_ = g) from by repeat (first | (with_reducible first | exact HK.out | apply Kept.alloc | apply Kept.drewN | apply Kept.drew | refine Kept.setCell ?_ (.inl (.inr rfl)) _) | exact HK.out)).1) (fun k_ h_ => .inr h_)) (MK.R_lt (by (with_reducible repeat (first | apply MK.R_alloc | apply MK.R_drewN | apply MK.R_drew)); exact HO_1.out))) (below_size (by repeat (first | (with_reducible first | exact HB.out | apply below_alloc | apply pw_below_drewN | apply below_drew1 | refine below_set ?_ (IsS75.ge HI0.out)) | exact HB.out))))); have n2_ := Aside0.mk (Kept.of_keep (S := (fun k_ => (P1_ k_) ∨ k_ = g)) (by repeat (first | (with_reducible first | exact HK.out | apply Kept.alloc | apply Kept.drewN | apply Kept.drew | refine Kept.setCell ?_ (.inl (.inr rfl)) _) | exact HK.out)) hk (.inl (.inr rfl))); have n3_ := Aside0.mk (hb); have n4_ := Aside0.mk (hi); clear HO_1; clear HK; clear HB; clear HI0; have HO_1 := n0_; have HO227 := n1_; have HK := n2_; have HB := n3_; have HI0 := n4_; clear n0_ n1_ n2_ n3_ n4_; (try clear hb); (try clear hb2); (try clear hk); (try clear hi); (try clear ho0)))
                        go_ret
                        exact ⟨_, by first | rfl | (simp [errW_none, errW_some] <;> rfl) | (simp [*, errW_none, errW_some] <;> rfl), by (with_reducible repeat (first | apply MK.R_alloc | apply MK.R_drewN | apply MK.R_drew)); exact MK.R_mono HO227.out (fun _ hk => hk.1.1), by repeat (first | (with_reducible first | exact HI0.out | apply IsS75.alloc | apply IsS75.drewN | apply IsS75.drew | apply IsS75.set_1 | apply IsS75.set_2) | exact HI0.out), by repeat (first | (with_reducible first | exact HB.out | apply below_alloc | apply pw_below_drewN | apply below_drew1 | refine below_set ?_ (IsS75.ge HI0.out)) | exact HB.out), by repeat (first | (with_reducible first | exact HK.out | apply Kept.alloc | apply Kept.drewN | apply Kept.drew | refine Kept.setCell ?_ (.inl (.inr rfl)) _) | exact HK.out)⟩
                      · replace c56 := Bool.eq_false_iff.mpr c56
                        subst c56
                        have H1 : (some (x1_8, t223, t224)) = some (r1, r2, r3) := by rw [if_neg (show ¬ (false = true) by decide)] at H; exact H
                        clear H
                        have H := H1
                        clear H1
                        simp only [Option.some.injEq, Prod.mk.injEq] at H
                        obtain ⟨rfl, rfl, rfl⟩ := H
                        go_wp2_with (first | (go_at_call 47; (with_reducible refine (spec_l1Chance.calls g s0_0 x1001_46 x1002_46 3 false t223 t224 w0 _ ?side1 ?side2 A55.out).mono ?_); (case side1 => repeat (first | (with_reducible first | exact HI0.out | apply IsS75.alloc | apply IsS75.drewN | apply IsS75.drew | apply IsS75.set_1 | apply IsS75.set_2) | exact HI0.out)); (case side2 => repeat (first | (with_reducible first | exact HB.out | apply below_alloc | apply pw_below_drewN | apply below_drew1 | refine below_set ?_ (IsS75.ge HI0.out)) | exact HB.out)); rintro e w60 ⟨rfl, hi, hb, hk⟩; have n0_ := Aside0.mk (MK.R_mono (MK.R_keep (IsS75.apartM (show IsS75 w0 _ g s0_0 x1001_46 x1002_46 from by repeat (first | (with_reducible first | exact HI0.out | apply IsS75.alloc | apply IsS75.drewN | apply IsS75.drew | apply IsS75.set_1 | apply IsS75.set_2) | exact HI0.out)) (by (with_reducible repeat (first | apply MK.R_alloc | apply MK.R_drewN | apply MK.R_drew)); exact HO_1.out) (by decide)) hk (fun _ h => h.2)) (fun _ h => h.1)); have n1_ := Aside0.mk (Kept.of_keep (S := (fun k_ => (P1_ k_) ∨ k_ = g)) (by repeat (first | (with_reducible first | exact HK.out | apply Kept.alloc | apply Kept.drewN | apply Kept.drew | refine Kept.setCell ?_ (.inl (.inr rfl)) _) | exact HK.out)) hk (.inl (.inr rfl))); have n2_ := Aside0.mk (hb); have n3_ := Aside0.mk (hi); clear HO_1; clear HK; clear HB; clear HI0; have HO_1 := n0_; have HK := n1_; have HB := n2_; have HI0 := n3_; clear n0_ n1_ n2_ n3_; (try clear hb); (try clear hb2); (try clear hk); (try clear hi)))
                        go_ret
                        exact ⟨_, by first | rfl | (simp [errW_none, errW_some] <;> rfl) | (simp [*, errW_none, errW_some] <;> rfl), by (with_reducible repeat (first | apply MK.R_alloc | apply MK.R_drewN | apply MK.R_drew)); exact HO_1.out, by repeat (first | (with_reducible first | exact HI0.out | apply IsS75.alloc | apply IsS75.drewN | apply IsS75.drew | apply IsS75.set_1 | apply IsS75.set_2) | exact HI0.out), by repeat (first | (with_reducible first | exact HB.out | apply below_alloc | apply pw_below_drewN | apply below_drew1 | refine below_set ?_ (IsS75.ge HI0.out)) | exact HB.out), by repeat (first | (with_reducible first | exact HK.out | apply Kept.alloc | apply Kept.drewN | apply Kept.drew | refine Kept.setCell ?_ (.inl (.inr rfl)) _) | exact HK.out)⟩
                    · rw [if_neg c54] at H
                      have c54b0 : (t183 == 5) = false := beq_eq_false_iff_ne.mpr c54
                      have c54b1 : (t183 != 5) = true := bne_iff_ne.mpr c54
                      simp only [Option.some.injEq, Prod.mk.injEq] at H
                      obtain ⟨rfl, rfl, rfl⟩ := H
                      go_wp2
                      go_ret
                      exact ⟨_, by first | rfl | (simp [errW_none, errW_some] <;> rfl) | (simp [*, errW_none, errW_some] <;> rfl), by (with_reducible repeat (first | apply MK.R_alloc | apply MK.R_drewN | apply MK.R_drew)); exact HO_1.out, by repeat (first | (with_reducible first | exact HI0.out | apply IsS75.alloc | apply IsS75.drewN | apply IsS75.drew | apply IsS75.set_1 | apply IsS75.set_2) | exact HI0.out), by repeat (first | (with_reducible first | exact HB.out | apply below_alloc | apply pw_below_drewN | apply below_drew1 | refine below_set ?_ (IsS75.ge HI0.out)) | exact HB.out), by repeat (first | (with_reducible first | exact HK.out | apply Kept.alloc | apply Kept.drewN | apply Kept.drew | refine Kept.setCell ?_ (.inl (.inr rfl)) _) | exact HK.out)⟩

end Go.Proofs.Ytikandlenlhdkaa.PFnQuote
