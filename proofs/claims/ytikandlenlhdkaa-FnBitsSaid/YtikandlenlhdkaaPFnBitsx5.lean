-- written by a program of this session (wip/src/print2.py)
import Derived.Test.YtikandlenlhdkaaPFnBitsx0
import Derived.Test.YtikandlenlhdkaaPFnBitsx1
import Derived.Test.YtikandlenlhdkaaPFnBitsx2
import Derived.Test.YtikandlenlhdkaaPFnBitsx3
import Derived.Test.YtikandlenlhdkaaPFnBitsx4
namespace Go.Proofs.Ytikandlenlhdkaa.PFnBits
open Go.RowKit Go.Proofs.YtikandlenlhdkaaW.PrintWords Go.Proofs.YtikandlenlhdkaaW.PrintLast Go.Proofs.YtikandlenlhdkaaW.PrintMore
attribute [local go_sem] max2_int min2_int max_two min_two max_three min_three max_four min_four   -- for this text's walks alone
set_option linter.unusedVariables false
set_option linter.unusedSimpArgs false

/-! ### laws_FnBits: function 4 -/
mutual
def laws_FnBits.l0 : Nat → List Int → Int → Int → List (S35) → Int → Int → Int → Int → Int → Int → Option (Bool)
  | 0, _, _, _, _, _, _, _, _, _, _ => none
  | k + 1, x3, x4, x5, x6, x7, x8, x9, x10, x11, x12 => if x12 < (x6.length : Int) then (if 0 ≤ x12 then (if ((rd_T35 x6 x12).f1) < 1 then (laws_FnBits.j1 k x3 x4 x5 x6 x7 x8 x9 x10 x12 true ((rd_T35 x6 x12).f0) ((rd_T35 x6 x12).f1)) else (if ((rd_T35 x6 x12).f0) < x11 then (laws_FnBits.j1 k x3 x4 x5 x6 x7 x8 x9 x10 x12 true ((rd_T35 x6 x12).f0) ((rd_T35 x6 x12).f1)) else (if (wrap64 (((rd_T35 x6 x12).f0) + ((rd_T35 x6 x12).f1))) > x9 then (laws_FnBits.j1 k x3 x4 x5 x6 x7 x8 x9 x10 x12 true ((rd_T35 x6 x12).f0) ((rd_T35 x6 x12).f1)) else (if x12 > 0 then (laws_FnBits.j1 k x3 x4 x5 x6 x7 x8 x9 x10 x12 (((rd_T35 x6 x12).f0) == x11) ((rd_T35 x6 x12).f0) ((rd_T35 x6 x12).f1)) else (laws_FnBits.j1 k x3 x4 x5 x6 x7 x8 x9 x10 x12 false ((rd_T35 x6 x12).f0) ((rd_T35 x6 x12).f1)))))) else (none)) else ((some (([] : List Int) : List Int)).bind fun y222 => (if y222.length + x3.length < 140737488355328 then ((impl_BitCount.f k (y222 ++ x3) x4 x5).bind fun t228 => (if (wrap64 (t228 + x10)) = (wrap64 (x9 - x8)) then (if (((x6.length : Int) == 0) != (x7 == (-1))) = true then (laws_FnBits.j3 k x3 x7 true) else (if (x6.length : Int) > 0 then (if 0 < (x6.length : Int) then (laws_FnBits.j3 k x3 x7 (((rd_T35 x6 0).f0) != x7)) else (none)) else (laws_FnBits.j3 k x3 x7 false))) else (laws_FnBits.j3 k x3 x7 true))) else (none)))
def laws_FnBits.j1 : Nat → List Int → Int → Int → List (S35) → Int → Int → Int → Int → Int → Bool → Int → Int → Option (Bool)
  | 0, _, _, _, _, _, _, _, _, _, _, _, _ => none
  | k + 1, x3, x4, x5, x6, x7, x8, x9, x10, x12, x106, x220000, x220001 => if x106 = true then (some false) else (laws_FnBits.l1 k x3 x4 x5 x6 x7 x8 x9 x10 x12 x220000 x220000 x220001)
def laws_FnBits.l1 : Nat → List Int → Int → Int → List (S35) → Int → Int → Int → Int → Int → Int → Int → Int → Option (Bool)
  | 0, _, _, _, _, _, _, _, _, _, _, _, _ => none
  | k + 1, x3, x4, x5, x6, x7, x8, x9, x10, x12, x14, x220000, x220001 => if x14 < (wrap64 (x220000 + x220001)) then ((spec_BitGet.f k x3 x14).bind fun t220 => (if t220 = true then (some false) else ((impl_BitGet.f x3 x14).bind fun t221 => (if t221 = true then (some false) else (laws_FnBits.l1 k x3 x4 x5 x6 x7 x8 x9 x10 x12 (wrap64 (x14 + 1)) x220000 x220001))))) else (laws_FnBits.l0 k x3 x4 x5 x6 x7 x8 x9 (wrap64 (x10 + x220001)) (wrap64 (x220000 + x220001)) (wrap64 (x12 + 1)))
def laws_FnBits.j3 : Nat → List Int → Int → Bool → Option (Bool)
  | 0, _, _, _ => none
  | k + 1, x3, x7, x167 => if x167 = true then (some false) else (if x7 < 0 then (some true) else ((some (([] : List Int) : List Int)).bind fun y230 => (if y230.length + x3.length < 140737488355328 then ((impl_BitPut.f k (y230 ++ x3) x7 true).bind fun t236 => ((some (([] : List Int) : List Int)).bind fun y239 => (if y239.length + t236.length < 140737488355328 then ((impl_BitPut.f k (y239 ++ t236) x7 false).bind fun t245 => (if (t236.length : Int) = (x3.length : Int) then ((impl_BitGet.f t236 x7).bind fun t248 => (if t248 = true then ((laws_lwSameBytes.f t245 x3).bind fun t249 => (if t249 = true then ((impl_BitCount.f k t236 0 (wrap64 (8 * (x3.length : Int)))).bind fun t250 => ((spec_BitCount.f k x3 0 (wrap64 (8 * (x3.length : Int)))).bind fun t251 => (some (t250 == (wrap64 (t251 + 1)))))) else (some false))) else (some false))) else (some false))) else (none)))) else (none))))
end
def laws_FnBits.f (k : Nat) (l0 : List Int) : Option (Bool) := if (l0.length : Int) > 1048576 then (some true) else ((spec_DrawBitRuns.f k l0).bind fun bt196 => ((some (([] : List Int) : List Int)).bind fun y201 => (if y201.length + bt196.1.length < 140737488355328 then ((impl_BitRuns.f (y201 ++ bt196.1) bt196.2.1 bt196.2.2).bind fun t207 => ((some (([] : List Int) : List Int)).bind fun y210 => (if y210.length + bt196.1.length < 140737488355328 then ((impl_BitFirst.f k (y210 ++ bt196.1) bt196.2.1 bt196.2.2).bind fun t216 => (if (bt196.1.length : Int) > 2048 then (if (t207.length : Int) = 0 then (if t216 = (-1) then ((impl_BitCount.f k bt196.1 bt196.2.1 bt196.2.2).bind fun t217 => (some (t217 == 0))) else (some false)) else (some false)) else (laws_FnBits.l0 k bt196.1 bt196.2.1 bt196.2.2 t207 t216 (mn (mx 0 bt196.2.1) (wrap64 (8 * (bt196.1.length : Int)))) (mx (mn (mx 0 bt196.2.1) (wrap64 (8 * (bt196.1.length : Int)))) (mn (wrap64 (8 * (bt196.1.length : Int))) bt196.2.2)) 0 (mn (mx 0 bt196.2.1) (wrap64 (8 * (bt196.1.length : Int)))) 0))) else (none)))) else (none))))
theorem laws_FnBits.mono_l : ∀ k, (∀ y0 y1 y2 y3 y4 y5 y6 y7 y8 y9, LeO (laws_FnBits.l0 k y0 y1 y2 y3 y4 y5 y6 y7 y8 y9) (laws_FnBits.l0 (k + 1) y0 y1 y2 y3 y4 y5 y6 y7 y8 y9)) ∧ (∀ y0 y1 y2 y3 y4 y5 y6 y7 y8 y9 y10 y11, LeO (laws_FnBits.j1 k y0 y1 y2 y3 y4 y5 y6 y7 y8 y9 y10 y11) (laws_FnBits.j1 (k + 1) y0 y1 y2 y3 y4 y5 y6 y7 y8 y9 y10 y11)) ∧ (∀ y0 y1 y2 y3 y4 y5 y6 y7 y8 y9 y10 y11, LeO (laws_FnBits.l1 k y0 y1 y2 y3 y4 y5 y6 y7 y8 y9 y10 y11) (laws_FnBits.l1 (k + 1) y0 y1 y2 y3 y4 y5 y6 y7 y8 y9 y10 y11)) ∧ (∀ y0 y1 y2, LeO (laws_FnBits.j3 k y0 y1 y2) (laws_FnBits.j3 (k + 1) y0 y1 y2))
  | 0 => ⟨fun _ _ _ _ _ _ _ _ _ _ r h => by simp [laws_FnBits.l0] at h, fun _ _ _ _ _ _ _ _ _ _ _ _ r h => by simp [laws_FnBits.j1] at h, fun _ _ _ _ _ _ _ _ _ _ _ _ r h => by simp [laws_FnBits.l1] at h, fun _ _ _ r h => by simp [laws_FnBits.j3] at h⟩
  | k + 1 => by
    obtain ⟨ih0, ih1, ih2, ih3⟩ := laws_FnBits.mono_l k
    refine ⟨?_, ?_, ?_, ?_⟩
    · intro y0 y1 y2 y3 y4 y5 y6 y7 y8 y9
      unfold laws_FnBits.l0
      repeat' first
      | (with_reducible exact ih0 _ _ _ _ _ _ _ _ _ _)
      | (with_reducible exact ih1 _ _ _ _ _ _ _ _ _ _ _ _)
      | (with_reducible exact ih2 _ _ _ _ _ _ _ _ _ _ _ _)
      | (with_reducible exact ih3 _ _ _)
      | (with_reducible exact impl_BitCount.mono _ _ _ _)
      | (with_reducible exact impl_BitFirst.mono _ _ _ _)
      | (with_reducible exact impl_BitPut.mono _ _ _ _)
      | (with_reducible exact spec_BitCount.mono _ _ _ _)
      | (with_reducible exact spec_BitGet.mono _ _ _)
      | (with_reducible exact spec_DrawBitRuns.mono _ _)
      | (with_reducible exact LeO.refl _)
      | (with_reducible exact LeO.none _)
      | (with_reducible refine LeO.ite ?_ ?_)
      | (with_reducible refine LeO.bind ?_ (fun _ => ?_))
      | exact ih0 _ _ _ _ _ _ _ _ _ _
      | exact ih1 _ _ _ _ _ _ _ _ _ _ _ _
      | exact ih2 _ _ _ _ _ _ _ _ _ _ _ _
      | exact ih3 _ _ _
      | exact impl_BitCount.mono _ _ _ _
      | exact impl_BitFirst.mono _ _ _ _
      | exact impl_BitPut.mono _ _ _ _
      | exact spec_BitCount.mono _ _ _ _
      | exact spec_BitGet.mono _ _ _
      | exact spec_DrawBitRuns.mono _ _
      | exact LeO.none _
      | refine LeO.ite ?_ ?_
      | refine LeO.bind ?_ (fun _ => ?_)
    · intro y0 y1 y2 y3 y4 y5 y6 y7 y8 y9 y10 y11
      unfold laws_FnBits.j1
      repeat' first
      | (with_reducible exact ih0 _ _ _ _ _ _ _ _ _ _)
      | (with_reducible exact ih1 _ _ _ _ _ _ _ _ _ _ _ _)
      | (with_reducible exact ih2 _ _ _ _ _ _ _ _ _ _ _ _)
      | (with_reducible exact ih3 _ _ _)
      | (with_reducible exact impl_BitCount.mono _ _ _ _)
      | (with_reducible exact impl_BitFirst.mono _ _ _ _)
      | (with_reducible exact impl_BitPut.mono _ _ _ _)
      | (with_reducible exact spec_BitCount.mono _ _ _ _)
      | (with_reducible exact spec_BitGet.mono _ _ _)
      | (with_reducible exact spec_DrawBitRuns.mono _ _)
      | (with_reducible exact LeO.refl _)
      | (with_reducible exact LeO.none _)
      | (with_reducible refine LeO.ite ?_ ?_)
      | (with_reducible refine LeO.bind ?_ (fun _ => ?_))
      | exact ih0 _ _ _ _ _ _ _ _ _ _
      | exact ih1 _ _ _ _ _ _ _ _ _ _ _ _
      | exact ih2 _ _ _ _ _ _ _ _ _ _ _ _
      | exact ih3 _ _ _
      | exact impl_BitCount.mono _ _ _ _
      | exact impl_BitFirst.mono _ _ _ _
      | exact impl_BitPut.mono _ _ _ _
      | exact spec_BitCount.mono _ _ _ _
      | exact spec_BitGet.mono _ _ _
      | exact spec_DrawBitRuns.mono _ _
      | exact LeO.none _
      | refine LeO.ite ?_ ?_
      | refine LeO.bind ?_ (fun _ => ?_)
    · intro y0 y1 y2 y3 y4 y5 y6 y7 y8 y9 y10 y11
      unfold laws_FnBits.l1
      repeat' first
      | (with_reducible exact ih0 _ _ _ _ _ _ _ _ _ _)
      | (with_reducible exact ih1 _ _ _ _ _ _ _ _ _ _ _ _)
      | (with_reducible exact ih2 _ _ _ _ _ _ _ _ _ _ _ _)
      | (with_reducible exact ih3 _ _ _)
      | (with_reducible exact impl_BitCount.mono _ _ _ _)
      | (with_reducible exact impl_BitFirst.mono _ _ _ _)
      | (with_reducible exact impl_BitPut.mono _ _ _ _)
      | (with_reducible exact spec_BitCount.mono _ _ _ _)
      | (with_reducible exact spec_BitGet.mono _ _ _)
      | (with_reducible exact spec_DrawBitRuns.mono _ _)
      | (with_reducible exact LeO.refl _)
      | (with_reducible exact LeO.none _)
      | (with_reducible refine LeO.ite ?_ ?_)
      | (with_reducible refine LeO.bind ?_ (fun _ => ?_))
      | exact ih0 _ _ _ _ _ _ _ _ _ _
      | exact ih1 _ _ _ _ _ _ _ _ _ _ _ _
      | exact ih2 _ _ _ _ _ _ _ _ _ _ _ _
      | exact ih3 _ _ _
      | exact impl_BitCount.mono _ _ _ _
      | exact impl_BitFirst.mono _ _ _ _
      | exact impl_BitPut.mono _ _ _ _
      | exact spec_BitCount.mono _ _ _ _
      | exact spec_BitGet.mono _ _ _
      | exact spec_DrawBitRuns.mono _ _
      | exact LeO.none _
      | refine LeO.ite ?_ ?_
      | refine LeO.bind ?_ (fun _ => ?_)
    · intro y0 y1 y2
      unfold laws_FnBits.j3
      repeat' first
      | (with_reducible exact ih0 _ _ _ _ _ _ _ _ _ _)
      | (with_reducible exact ih1 _ _ _ _ _ _ _ _ _ _ _ _)
      | (with_reducible exact ih2 _ _ _ _ _ _ _ _ _ _ _ _)
      | (with_reducible exact ih3 _ _ _)
      | (with_reducible exact impl_BitCount.mono _ _ _ _)
      | (with_reducible exact impl_BitFirst.mono _ _ _ _)
      | (with_reducible exact impl_BitPut.mono _ _ _ _)
      | (with_reducible exact spec_BitCount.mono _ _ _ _)
      | (with_reducible exact spec_BitGet.mono _ _ _)
      | (with_reducible exact spec_DrawBitRuns.mono _ _)
      | (with_reducible exact LeO.refl _)
      | (with_reducible exact LeO.none _)
      | (with_reducible refine LeO.ite ?_ ?_)
      | (with_reducible refine LeO.bind ?_ (fun _ => ?_))
      | exact ih0 _ _ _ _ _ _ _ _ _ _
      | exact ih1 _ _ _ _ _ _ _ _ _ _ _ _
      | exact ih2 _ _ _ _ _ _ _ _ _ _ _ _
      | exact ih3 _ _ _
      | exact impl_BitCount.mono _ _ _ _
      | exact impl_BitFirst.mono _ _ _ _
      | exact impl_BitPut.mono _ _ _ _
      | exact spec_BitCount.mono _ _ _ _
      | exact spec_BitGet.mono _ _ _
      | exact spec_DrawBitRuns.mono _ _
      | exact LeO.none _
      | refine LeO.ite ?_ ?_
      | refine LeO.bind ?_ (fun _ => ?_)
theorem laws_FnBits.mono : ∀ a0 k, LeO (laws_FnBits.f k a0) (laws_FnBits.f (k + 1) a0) := by
  intro a0 k
  obtain ⟨ih0, ih1, ih2, ih3⟩ := laws_FnBits.mono_l k
  unfold laws_FnBits.f
  repeat' first
      | (with_reducible exact ih0 _ _ _ _ _ _ _ _ _ _)
      | (with_reducible exact ih1 _ _ _ _ _ _ _ _ _ _ _ _)
      | (with_reducible exact ih2 _ _ _ _ _ _ _ _ _ _ _ _)
      | (with_reducible exact ih3 _ _ _)
      | (with_reducible exact impl_BitCount.mono _ _ _ _)
      | (with_reducible exact impl_BitFirst.mono _ _ _ _)
      | (with_reducible exact impl_BitPut.mono _ _ _ _)
      | (with_reducible exact spec_BitCount.mono _ _ _ _)
      | (with_reducible exact spec_BitGet.mono _ _ _)
      | (with_reducible exact spec_DrawBitRuns.mono _ _)
      | (with_reducible exact LeO.refl _)
      | (with_reducible exact LeO.none _)
      | (with_reducible refine LeO.ite ?_ ?_)
      | (with_reducible refine LeO.bind ?_ (fun _ => ?_))
      | exact ih0 _ _ _ _ _ _ _ _ _ _
      | exact ih1 _ _ _ _ _ _ _ _ _ _ _ _
      | exact ih2 _ _ _ _ _ _ _ _ _ _ _ _
      | exact ih3 _ _ _
      | exact impl_BitCount.mono _ _ _ _
      | exact impl_BitFirst.mono _ _ _ _
      | exact impl_BitPut.mono _ _ _ _
      | exact spec_BitCount.mono _ _ _ _
      | exact spec_BitGet.mono _ _ _
      | exact spec_DrawBitRuns.mono _ _
      | exact LeO.none _
      | refine LeO.ite ?_ ?_
      | refine LeO.bind ?_ (fun _ => ?_)
set_option maxHeartbeats 8000000 in
set_option maxRecDepth 100000 in
theorem laws_FnBits.calls (k : Nat) (A0 : Option Addr) (c0 : Nat) (l0 : List Int) (r : Bool) (w : World) (hr0 : Kd.C (Kd.int .u8) w A0 l0.length l0) (hc0 : l0.length ≤ c0) (h : laws_FnBits.f k l0 = some r) (hrt : Aside0 (r = true)) :
    Calls Try.prog 4 #[.slice A0 l0.length c0] w fun e w' => e = .returned (.bool r) ∧ Below w.heap.size w w' := by
  have hu35 := Try.underlying35
  have HR0 := Aside0.mk hr0
  have HC0 := Aside0.mk hc0
  clear hr0 hc0
  have HB := Aside0.mk (Below.refl w.heap.size w)
  have H : (if (l0.length : Int) > 1048576 then (some true) else ((spec_DrawBitRuns.f k l0).bind fun bt196 => ((some (([] : List Int) : List Int)).bind fun y201 => (if y201.length + bt196.1.length < 140737488355328 then ((impl_BitRuns.f (y201 ++ bt196.1) bt196.2.1 bt196.2.2).bind fun t207 => ((some (([] : List Int) : List Int)).bind fun y210 => (if y210.length + bt196.1.length < 140737488355328 then ((impl_BitFirst.f k (y210 ++ bt196.1) bt196.2.1 bt196.2.2).bind fun t216 => (if (bt196.1.length : Int) > 2048 then (if (t207.length : Int) = 0 then (if t216 = (-1) then ((impl_BitCount.f k bt196.1 bt196.2.1 bt196.2.2).bind fun t217 => (some (t217 == 0))) else (some false)) else (some false)) else (laws_FnBits.l0 k bt196.1 bt196.2.1 bt196.2.2 t207 t216 (mn (mx 0 bt196.2.1) (wrap64 (8 * (bt196.1.length : Int)))) (mx (mn (mx 0 bt196.2.1) (wrap64 (8 * (bt196.1.length : Int)))) (mn (wrap64 (8 * (bt196.1.length : Int))) bt196.2.2)) 0 (mn (mx 0 bt196.2.1) (wrap64 (8 * (bt196.1.length : Int)))) 0))) else (none)))) else (none))))) = some r := h
  clear h
  by_cases c2 : (l0.length : Int) > 1048576
  · rw [if_pos c2] at H
    have c2b0 : decide (1048576 < (l0.length : Int)) = true := decide_eq_true c2
    have c2b1 : decide (1048576 < l0.length) = true := decide_eq_true (by omega)
    clear c2
    obtain rfl := Option.some.inj H
    go_enter Try.func4, Try.ntmps4
    go_wp2
    go_ret
    exact ⟨by first | rfl | (simp [errW_none, errW_some] <;> rfl) | (simp [*, errW_none, errW_some] <;> rfl), by repeat (first | (with_reducible first | exact HB.out | apply below_alloc | apply pw_below_drewN | apply below_drew1) | exact HB.out)⟩
  · rw [if_neg c2] at H
    have c2b0 : decide (1048576 < (l0.length : Int)) = false := decide_eq_false c2
    have c2b1 : decide (1048576 < l0.length) = false := decide_eq_false (by omega)
    clear c2
    replace H := Option.bind_eq_some_iff.mp H
    obtain ⟨⟨t196, t197, t198⟩, A30, H⟩ := H
    replace H : ((some (([] : List Int) : List Int)).bind fun y201 => (if y201.length + t196.length < 140737488355328 then ((impl_BitRuns.f (y201 ++ t196) t197 t198).bind fun t207 => ((some (([] : List Int) : List Int)).bind fun y210 => (if y210.length + t196.length < 140737488355328 then ((impl_BitFirst.f k (y210 ++ t196) t197 t198).bind fun t216 => (if (t196.length : Int) > 2048 then (if (t207.length : Int) = 0 then (if t216 = (-1) then ((impl_BitCount.f k t196 t197 t198).bind fun t217 => (some (t217 == 0))) else (some false)) else (some false)) else (laws_FnBits.l0 k t196 t197 t198 t207 t216 (mn (mx 0 t197) (wrap64 (8 * (t196.length : Int)))) (mx (mn (mx 0 t197) (wrap64 (8 * (t196.length : Int)))) (mn (wrap64 (8 * (t196.length : Int))) t198)) 0 (mn (mx 0 t197) (wrap64 (8 * (t196.length : Int)))) 0))) else (none)))) else (none))) = some r := H
    have A3 := Aside0.mk A30
    clear A30
    obtain ⟨y201, hy201⟩ : ∃ y_ : List Int, y_ = (([] : List Int)) := ⟨_, rfl⟩
    replace H : (if y201.length + t196.length < 140737488355328 then ((impl_BitRuns.f (y201 ++ t196) t197 t198).bind fun t207 => ((some (([] : List Int) : List Int)).bind fun y210 => (if y210.length + t196.length < 140737488355328 then ((impl_BitFirst.f k (y210 ++ t196) t197 t198).bind fun t216 => (if (t196.length : Int) > 2048 then (if (t207.length : Int) = 0 then (if t216 = (-1) then ((impl_BitCount.f k t196 t197 t198).bind fun t217 => (some (t217 == 0))) else (some false)) else (some false)) else (laws_FnBits.l0 k t196 t197 t198 t207 t216 (mn (mx 0 t197) (wrap64 (8 * (t196.length : Int)))) (mx (mn (mx 0 t197) (wrap64 (8 * (t196.length : Int)))) (mn (wrap64 (8 * (t196.length : Int))) t198)) 0 (mn (mx 0 t197) (wrap64 (8 * (t196.length : Int)))) 0))) else (none)))) else (none)) = some r := by first | (rw [hy201]; with_reducible exact H) | (have H2_ := (Option.bind_some _ _).symm.trans H; rw [hy201]; with_reducible exact H2_) | (have H2_ := (Option.bind_some _ _).symm.trans H; with_reducible exact H2_) | with_reducible exact H | (rw [hy201]; exact H) | exact H
    have Ny201 := Aside0.mk hy201
    clear hy201
    by_cases c4 : y201.length + t196.length < 140737488355328
    · rw [if_pos c4] at H
      have LMc4 := Aside0.mk c4
      clear c4
      obtain ⟨y204, hy204⟩ : ∃ y_ : List Int, y_ = (y201 ++ t196) := ⟨_, rfl⟩
      replace H : ((impl_BitRuns.f y204 t197 t198).bind fun t207 => ((some (([] : List Int) : List Int)).bind fun y210 => (if y210.length + t196.length < 140737488355328 then ((impl_BitFirst.f k (y210 ++ t196) t197 t198).bind fun t216 => (if (t196.length : Int) > 2048 then (if (t207.length : Int) = 0 then (if t216 = (-1) then ((impl_BitCount.f k t196 t197 t198).bind fun t217 => (some (t217 == 0))) else (some false)) else (some false)) else (laws_FnBits.l0 k t196 t197 t198 t207 t216 (mn (mx 0 t197) (wrap64 (8 * (t196.length : Int)))) (mx (mn (mx 0 t197) (wrap64 (8 * (t196.length : Int)))) (mn (wrap64 (8 * (t196.length : Int))) t198)) 0 (mn (mx 0 t197) (wrap64 (8 * (t196.length : Int)))) 0))) else (none)))) = some r := by first | (rw [hy204]; with_reducible exact H) | (have H2_ := (Option.bind_some _ _).symm.trans H; rw [hy204]; with_reducible exact H2_) | (have H2_ := (Option.bind_some _ _).symm.trans H; with_reducible exact H2_) | with_reducible exact H | (rw [hy204]; exact H) | exact H
      have Ny204 := Aside0.mk hy204
      clear hy204
      replace H := Option.bind_eq_some_iff.mp H
      obtain ⟨t207, A50, H⟩ := H
      replace H : ((some (([] : List Int) : List Int)).bind fun y210 => (if y210.length + t196.length < 140737488355328 then ((impl_BitFirst.f k (y210 ++ t196) t197 t198).bind fun t216 => (if (t196.length : Int) > 2048 then (if (t207.length : Int) = 0 then (if t216 = (-1) then ((impl_BitCount.f k t196 t197 t198).bind fun t217 => (some (t217 == 0))) else (some false)) else (some false)) else (laws_FnBits.l0 k t196 t197 t198 t207 t216 (mn (mx 0 t197) (wrap64 (8 * (t196.length : Int)))) (mx (mn (mx 0 t197) (wrap64 (8 * (t196.length : Int)))) (mn (wrap64 (8 * (t196.length : Int))) t198)) 0 (mn (mx 0 t197) (wrap64 (8 * (t196.length : Int)))) 0))) else (none))) = some r := H
      have A5 := Aside0.mk A50
      clear A50
      obtain ⟨y210, hy210⟩ : ∃ y_ : List Int, y_ = (([] : List Int)) := ⟨_, rfl⟩
      replace H : (if y210.length + t196.length < 140737488355328 then ((impl_BitFirst.f k (y210 ++ t196) t197 t198).bind fun t216 => (if (t196.length : Int) > 2048 then (if (t207.length : Int) = 0 then (if t216 = (-1) then ((impl_BitCount.f k t196 t197 t198).bind fun t217 => (some (t217 == 0))) else (some false)) else (some false)) else (laws_FnBits.l0 k t196 t197 t198 t207 t216 (mn (mx 0 t197) (wrap64 (8 * (t196.length : Int)))) (mx (mn (mx 0 t197) (wrap64 (8 * (t196.length : Int)))) (mn (wrap64 (8 * (t196.length : Int))) t198)) 0 (mn (mx 0 t197) (wrap64 (8 * (t196.length : Int)))) 0))) else (none)) = some r := by first | (rw [hy210]; with_reducible exact H) | (have H2_ := (Option.bind_some _ _).symm.trans H; rw [hy210]; with_reducible exact H2_) | (have H2_ := (Option.bind_some _ _).symm.trans H; with_reducible exact H2_) | with_reducible exact H | (rw [hy210]; exact H) | exact H
      have Ny210 := Aside0.mk hy210
      clear hy210
      by_cases c6 : y210.length + t196.length < 140737488355328
      · rw [if_pos c6] at H
        have LMc6 := Aside0.mk c6
        clear c6
        obtain ⟨y213, hy213⟩ : ∃ y_ : List Int, y_ = (y210 ++ t196) := ⟨_, rfl⟩
        replace H : ((impl_BitFirst.f k y213 t197 t198).bind fun t216 => (if (t196.length : Int) > 2048 then (if (t207.length : Int) = 0 then (if t216 = (-1) then ((impl_BitCount.f k t196 t197 t198).bind fun t217 => (some (t217 == 0))) else (some false)) else (some false)) else (laws_FnBits.l0 k t196 t197 t198 t207 t216 (mn (mx 0 t197) (wrap64 (8 * (t196.length : Int)))) (mx (mn (mx 0 t197) (wrap64 (8 * (t196.length : Int)))) (mn (wrap64 (8 * (t196.length : Int))) t198)) 0 (mn (mx 0 t197) (wrap64 (8 * (t196.length : Int)))) 0))) = some r := by first | (rw [hy213]; with_reducible exact H) | (have H2_ := (Option.bind_some _ _).symm.trans H; rw [hy213]; with_reducible exact H2_) | (have H2_ := (Option.bind_some _ _).symm.trans H; with_reducible exact H2_) | with_reducible exact H | (rw [hy213]; exact H) | exact H
        have Ny213 := Aside0.mk hy213
        clear hy213
        replace H := Option.bind_eq_some_iff.mp H
        obtain ⟨t216, A70, H⟩ := H
        replace H : (if (t196.length : Int) > 2048 then (if (t207.length : Int) = 0 then (if t216 = (-1) then ((impl_BitCount.f k t196 t197 t198).bind fun t217 => (some (t217 == 0))) else (some false)) else (some false)) else (laws_FnBits.l0 k t196 t197 t198 t207 t216 (mn (mx 0 t197) (wrap64 (8 * (t196.length : Int)))) (mx (mn (mx 0 t197) (wrap64 (8 * (t196.length : Int)))) (mn (wrap64 (8 * (t196.length : Int))) t198)) 0 (mn (mx 0 t197) (wrap64 (8 * (t196.length : Int)))) 0)) = some r := H
        have A7 := Aside0.mk A70
        clear A70
        obtain ⟨ji8, hji8⟩ : ∃ j_ : Int, (mx 0 t197) = j_ := ⟨_, rfl⟩
        replace H : (if (t196.length : Int) > 2048 then (if (t207.length : Int) = 0 then (if t216 = (-1) then ((impl_BitCount.f k t196 t197 t198).bind fun t217 => (some (t217 == 0))) else (some false)) else (some false)) else (laws_FnBits.l0 k t196 t197 t198 t207 t216 (mn (ji8) (wrap64 (8 * (t196.length : Int)))) (mx (mn (ji8) (wrap64 (8 * (t196.length : Int)))) (mn (wrap64 (8 * (t196.length : Int))) t198)) 0 (mn (ji8) (wrap64 (8 * (t196.length : Int)))) 0)) = some r := by first | (rw [hji8] at H; exact H) | (simp only [hji8] at H ⊢; exact H)
        (try rw [hji8] at A3)
        (try rw [hji8] at A5)
        (try rw [hji8] at A7)
        (try (have hji8l : 0 ≤ ji8 := by (rw [← hji8]; unfold mx; (repeat' split) <;> omega)))
        (try (have hji8m : 0 ≤ ji8 := by omega))
        have hji8_ : (if 0 < t197 then t197 else 0) = ji8 := hji8
        obtain ⟨ji9, hji9⟩ : ∃ j_ : Int, (mn (ji8) (wrap64 (8 * (t196.length : Int)))) = j_ := ⟨_, rfl⟩
        replace H : (if (t196.length : Int) > 2048 then (if (t207.length : Int) = 0 then (if t216 = (-1) then ((impl_BitCount.f k t196 t197 t198).bind fun t217 => (some (t217 == 0))) else (some false)) else (some false)) else (laws_FnBits.l0 k t196 t197 t198 t207 t216 ji9 (mx (ji9) (mn (wrap64 (8 * (t196.length : Int))) t198)) 0 ji9 0)) = some r := by first | (rw [hji9] at H; exact H) | (simp only [hji9] at H ⊢; exact H)
        (try rw [hji9] at A3)
        (try rw [hji9] at A5)
        (try rw [hji9] at A7)
        have hji9_ : (if (wrap64 (8 * (t196.length : Int))) < (ji8) then (wrap64 (8 * (t196.length : Int))) else (ji8)) = ji9 := hji9
        obtain ⟨ji10, hji10⟩ : ∃ j_ : Int, (mn (wrap64 (8 * (t196.length : Int))) t198) = j_ := ⟨_, rfl⟩
        replace H : (if (t196.length : Int) > 2048 then (if (t207.length : Int) = 0 then (if t216 = (-1) then ((impl_BitCount.f k t196 t197 t198).bind fun t217 => (some (t217 == 0))) else (some false)) else (some false)) else (laws_FnBits.l0 k t196 t197 t198 t207 t216 ji9 (mx (ji9) (ji10)) 0 ji9 0)) = some r := by first | (rw [hji10] at H; exact H) | (simp only [hji10] at H ⊢; exact H)
        (try rw [hji10] at A3)
        (try rw [hji10] at A5)
        (try rw [hji10] at A7)
        have hji10_ : (if t198 < (wrap64 (8 * (t196.length : Int))) then t198 else (wrap64 (8 * (t196.length : Int)))) = ji10 := hji10
        obtain ⟨ji11, hji11⟩ : ∃ j_ : Int, (mx (ji9) (ji10)) = j_ := ⟨_, rfl⟩
        replace H : (if (t196.length : Int) > 2048 then (if (t207.length : Int) = 0 then (if t216 = (-1) then ((impl_BitCount.f k t196 t197 t198).bind fun t217 => (some (t217 == 0))) else (some false)) else (some false)) else (laws_FnBits.l0 k t196 t197 t198 t207 t216 ji9 ji11 0 ji9 0)) = some r := by first | (rw [hji11] at H; exact H) | (simp only [hji11] at H ⊢; exact H)
        (try rw [hji11] at A3)
        (try rw [hji11] at A5)
        (try rw [hji11] at A7)
        have hji11_ : (if (ji9) < (ji10) then (ji10) else (ji9)) = ji11 := hji11
        by_cases c12 : (t196.length : Int) > 2048
        · rw [if_pos c12] at H
          have c12b0 : decide (2048 < (t196.length : Int)) = true := decide_eq_true c12
          have c12b1 : decide (2048 < t196.length) = true := decide_eq_true (by omega)
          clear c12
          by_cases c13 : (t207.length : Int) = 0
          · rw [if_pos c13] at H
            have c13b0 : ((t207.length : Int) == 0) = true := beq_iff_eq.mpr c13
            have c13b1 : ((t207.length : Int) != 0) = false := bne_eq_false_iff_eq.mpr c13
            clear c13
            by_cases c14 : t216 = (-1)
            · rw [if_pos c14] at H
              have c14b0 : (t216 == (-1)) = true := beq_iff_eq.mpr c14
              have c14b1 : (t216 != (-1)) = false := bne_eq_false_iff_eq.mpr c14
              clear c14
              replace H := Option.bind_eq_some_iff.mp H
              obtain ⟨t217, A150, H⟩ := H
              replace H : (some (t217 == 0)) = some r := H
              have A15 := Aside0.mk A150
              clear A150
              obtain rfl := Option.some.inj H
              go_enter Try.func4, Try.ntmps4
              go_wp2_with (first | ((with_reducible refine gate_callee (f := 16) rfl ?_); refine goesL_ (some 22) rfl rfl Try.func16 (by kernel_rfl) rfl #[.slice A0 l0.length c0] rfl (by (try simp only [List.map_toArray, List.map_cons, List.map_nil]); first | done | rfl | (simp only [List.length_drop, List.length_take]; rfl)) ?_; (with_reducible refine (spec_DrawBitRuns.calls k _ _ l0 t196 t197 t198 _ ?side1 ?side2 A3.out).mono ?_); (case side1 => repeat (first | exact HR0.out | (with_reducible refine Kd.C_alloc ?_ _) | (with_reducible refine Kd.C_drewN ?_ _) | (with_reducible refine Kd.C_drew ?_))); (case side2 => exact HC0.out); rintro e w16 ⟨v199, rfl, ho0, hb⟩; refine ⟨_, rfl, ?_⟩; have n0_ := Aside0.mk (Kd.R_lower ho0 (below_size (by repeat (first | (with_reducible first | exact HB.out | apply below_alloc | apply pw_below_drewN | apply below_drew1) | exact HB.out)))); have n1_ := Aside0.mk (below_step (by repeat (first | (with_reducible first | exact HB.out | apply below_alloc | apply pw_below_drewN | apply below_drew1) | exact HB.out)) hb); clear HB; have HO200 := n0_; have HB := n1_; clear n0_ n1_; (try clear hb); (try clear hb2); (try clear hk); (try clear hi); (try clear ho0)) | ((with_reducible refine gate_dst (N := 26) rfl ?_); (try (refine gate_guard (by rfl) ?_; dsimp only)); refine Kd.R_lit (Kd.int .u8) _ 5 ?hg (N := 26) ?hd (xs := ([] : List Int)) (inner := []) (ok := fun _ => True) (okp := fun _ => True) ?hr ?hp (fun _ hk => hk) trivial (Below.refl _ _) (Nat.le_refl _) (by simp) ?_; (case hd => rfl); (case hg => rfl); (case hr => first | (go_simp; done) | (go_simp; rfl)); (case hp => exact (Reps.none _ _)); intro v202 w17 ho18 hb hg_ hnew_; clear hg_ hnew_; (first | rw [← Ny201.out] at ho18 | (simp only [Int.reduceToNat] at ho18; rw [← Ny201.out] at ho18)); have n0_ := Aside0.mk (Kd.R_elder' (by (with_reducible repeat (first | apply Kd.R_alloc | apply Kd.R_drewN | apply Kd.R_drew)); exact HO200.out) (Kd.R_base ho18) hb); have n1_ := Aside0.mk (Kd.R_lower (Kd.R_new' ho18 (Kd.R_lt (by (with_reducible repeat (first | apply Kd.R_alloc | apply Kd.R_drewN | apply Kd.R_drew)); exact HO200.out))) (below_size (by repeat (first | (with_reducible first | exact HB.out | apply below_alloc | apply pw_below_drewN | apply below_drew1) | exact HB.out)))); have n2_ := Aside0.mk (below_step (by repeat (first | (with_reducible first | exact HB.out | apply below_alloc | apply pw_below_drewN | apply below_drew1) | exact HB.out)) hb); clear HO200; clear HB; have HO200 := n0_; have HO203 := n1_; have HB := n2_; clear n0_ n1_ n2_; clear hb ho18; obtain ⟨Ao20, co20, eo20⟩ := Kd.R_slice HO200.out; subst eo20) | ((with_reducible refine gate_builtin (b := .append) (xs := #[.tmp 26, .tmp 27]) rfl ?_); (try (refine gate_guard (by rfl) ?_; dsimp only)); at_builtin; refine Kd.R_append_rows (Kd.int .u8) (w0 := w) w.heap.size rfl (.tmp 26) (.tmp 27) 22 5 (.int .u8 0) 1 rfl Try.underlying22 info5 rfl (by decide) (by omega) v202 y201 t196 _ _ _ (fun k_ => some k_ ≠ (.slice Ao20 t196.length co20 : Value).ownBlock) (fun _ => False) rfl rfl ?aO ?aR (fun _ _ h => h) (fun _ h => h.elim) ?aF ?aB ?aS ?aL ?_; (case aR => repeat (first | exact (Kd.R_reads' HO200.out).2.2 | (with_reducible refine Kd.C_alloc ?_ _) | (with_reducible refine Kd.C_drewN ?_ _) | (with_reducible refine Kd.C_drew ?_))); (case aB => exact (by repeat (first | (with_reducible first | exact HB.out | apply below_alloc | apply pw_below_drewN | apply below_drew1) | exact HB.out))); (case aF => exact (fun k_ hk => Kd.fresh' (Kd.R_lt (by (with_reducible repeat (first | apply Kd.R_alloc | apply Kd.R_drewN | apply Kd.R_drew)); exact HO200.out)) k_ hk)); (case aO => exact (by (with_reducible repeat (first | apply Kd.R_alloc | apply Kd.R_drewN | apply Kd.R_drew)); exact Kd.R_mono HO203.out (fun _ hk => hk.2))); (case aS => exact (below_size (by repeat (first | (with_reducible first | exact HB.out | apply below_alloc | apply pw_below_drewN | apply below_drew1) | exact HB.out)))); (case aL => have := LMc4.out; omega); intro v205 w19 ho hb hg hat; rw [← Ny204.out] at ho; have n0_ := Aside0.mk (Kd.R_after (ok := (fun _ => True)) (by (with_reducible repeat (first | apply Kd.R_alloc | apply Kd.R_drewN | apply Kd.R_drew)); exact HO200.out) hg hat); have n1_ := Aside0.mk (hb); have n2_ := Aside0.mk (ho); clear HO200; clear HB; clear HO203; have HO200 := n0_; have HB := n1_; have HO206 := n2_; clear n0_ n1_ n2_; clear ho hb hg hat; obtain ⟨Ao21, co21, eo21⟩ := Kd.R_slice HO206.out; subst eo21) | ((with_reducible refine gate_callee (f := 10) rfl ?_); refine goesL_ (some 31) rfl rfl Try.func10 (by kernel_rfl) rfl #[.slice Ao21 y204.length co21, .int .i64 t197, .int .i64 t198] rfl (by (try simp only [List.map_toArray, List.map_cons, List.map_nil]); first | done | rfl | (simp only [List.length_drop, List.length_take]; rfl)) ?_; (with_reducible refine (impl_BitRuns.calls _ _ y204 t197 t198 t207 _ ?side1 ?side2 A5.out).mono ?_); (case side1 => repeat (first | exact (Kd.R_reads' HO206.out).2.2 | (with_reducible refine Kd.C_alloc ?_ _) | (with_reducible refine Kd.C_drewN ?_ _) | (with_reducible refine Kd.C_drew ?_))); (case side2 => exact (Kd.R_reads' HO206.out).2.1); rintro e w22 ⟨v208, rfl, ho0, hb⟩; refine ⟨_, rfl, ?_⟩; have n0_ := Aside0.mk (Kd.R_below (by (with_reducible repeat (first | apply Kd.R_alloc | apply Kd.R_drewN | apply Kd.R_drew)); exact HO200.out) hb); have n1_ := Aside0.mk (Kd.R_below (by (with_reducible repeat (first | apply Kd.R_alloc | apply Kd.R_drewN | apply Kd.R_drew)); exact HO206.out) hb); have n2_ := Aside0.mk (Kd.R_lower ho0 (below_size (by repeat (first | (with_reducible first | exact HB.out | apply below_alloc | apply pw_below_drewN | apply below_drew1) | exact HB.out)))); have n3_ := Aside0.mk (below_step (by repeat (first | (with_reducible first | exact HB.out | apply below_alloc | apply pw_below_drewN | apply below_drew1) | exact HB.out)) hb); clear HO200; clear HO206; clear HB; have HO200 := n0_; have HO206 := n1_; have HO209 := n2_; have HB := n3_; clear n0_ n1_ n2_ n3_; (try clear hb); (try clear hb2); (try clear hk); (try clear hi); (try clear ho0)) | ((with_reducible refine gate_dst (N := 32) rfl ?_); (try (refine gate_guard (by rfl) ?_; dsimp only)); refine Kd.R_lit (Kd.int .u8) _ 5 ?hg (N := 32) ?hd (xs := ([] : List Int)) (inner := []) (ok := fun _ => True) (okp := fun _ => True) ?hr ?hp (fun _ hk => hk) trivial (Below.refl _ _) (Nat.le_refl _) (by simp) ?_; (case hd => rfl); (case hg => rfl); (case hr => first | (go_simp; done) | (go_simp; rfl)); (case hp => exact (Reps.none _ _)); intro v211 w23 ho24 hb hg_ hnew_; clear hg_ hnew_; (first | rw [← Ny210.out] at ho24 | (simp only [Int.reduceToNat] at ho24; rw [← Ny210.out] at ho24)); have n0_ := Aside0.mk (Kd.R_elder' (by (with_reducible repeat (first | apply Kd.R_alloc | apply Kd.R_drewN | apply Kd.R_drew)); exact HO200.out) (Kd.R_base ho24) hb); have n1_ := Aside0.mk (Kd.R_elder' (by (with_reducible repeat (first | apply Kd.R_alloc | apply Kd.R_drewN | apply Kd.R_drew)); exact HO206.out) (Kd.R_base ho24) hb); have n2_ := Aside0.mk (Kd.R_below (by (with_reducible repeat (first | apply Kd.R_alloc | apply Kd.R_drewN | apply Kd.R_drew)); exact HO209.out) hb); have n3_ := Aside0.mk (Kd.R_lower (Kd.R_new' (Kd.R_new' ho24 (Kd.R_lt (by (with_reducible repeat (first | apply Kd.R_alloc | apply Kd.R_drewN | apply Kd.R_drew)); exact HO200.out))) (Kd.R_lt (by (with_reducible repeat (first | apply Kd.R_alloc | apply Kd.R_drewN | apply Kd.R_drew)); exact HO206.out))) (below_size (by repeat (first | (with_reducible first | exact HB.out | apply below_alloc | apply pw_below_drewN | apply below_drew1) | exact HB.out)))); have n4_ := Aside0.mk (below_step (by repeat (first | (with_reducible first | exact HB.out | apply below_alloc | apply pw_below_drewN | apply below_drew1) | exact HB.out)) hb); clear HO200; clear HO206; clear HO209; clear HB; have HO200 := n0_; have HO206 := n1_; have HO209 := n2_; have HO212 := n3_; have HB := n4_; clear n0_ n1_ n2_ n3_ n4_; clear hb ho24) | ((with_reducible refine gate_builtin (b := .append) (xs := #[.tmp 32, .tmp 33]) rfl ?_); (try (refine gate_guard (by rfl) ?_; dsimp only)); at_builtin; refine Kd.R_append_rows (Kd.int .u8) (w0 := w) w.heap.size rfl (.tmp 32) (.tmp 33) 22 5 (.int .u8 0) 1 rfl Try.underlying22 info5 rfl (by decide) (by omega) v211 y210 t196 _ _ _ (fun k_ => some k_ ≠ (.slice Ao20 t196.length co20 : Value).ownBlock ∧ some k_ ≠ (.slice Ao21 y204.length co21 : Value).ownBlock) (fun _ => False) rfl rfl ?aO ?aR (fun _ _ h => h) (fun _ h => h.elim) ?aF ?aB ?aS ?aL ?_; (case aR => repeat (first | exact (Kd.R_reads' HO200.out).2.2 | (with_reducible refine Kd.C_alloc ?_ _) | (with_reducible refine Kd.C_drewN ?_ _) | (with_reducible refine Kd.C_drew ?_))); (case aB => exact (by repeat (first | (with_reducible first | exact HB.out | apply below_alloc | apply pw_below_drewN | apply below_drew1) | exact HB.out))); (case aF => exact (fun k_ hk => ⟨Kd.fresh' (Kd.R_lt (by (with_reducible repeat (first | apply Kd.R_alloc | apply Kd.R_drewN | apply Kd.R_drew)); exact HO200.out)) k_ hk, Kd.fresh' (Kd.R_lt (by (with_reducible repeat (first | apply Kd.R_alloc | apply Kd.R_drewN | apply Kd.R_drew)); exact HO206.out)) k_ hk⟩)); (case aO => exact (by (with_reducible repeat (first | apply Kd.R_alloc | apply Kd.R_drewN | apply Kd.R_drew)); exact Kd.R_mono HO212.out (fun _ hk => ⟨hk.1.2, hk.2⟩))); (case aS => exact (below_size (by repeat (first | (with_reducible first | exact HB.out | apply below_alloc | apply pw_below_drewN | apply below_drew1) | exact HB.out)))); (case aL => have := LMc6.out; omega); intro v214 w25 ho hb hg hat; rw [← Ny213.out] at ho; have n0_ := Aside0.mk (Kd.R_after (ok := (fun k_ => some k_ ≠ (.slice Ao21 y204.length co21 : Value).ownBlock)) (by (with_reducible repeat (first | apply Kd.R_alloc | apply Kd.R_drewN | apply Kd.R_drew)); exact Kd.R_mono HO200.out (fun _ hk => ⟨hk.1.2, hk.2⟩)) hg hat); have n1_ := Aside0.mk (Kd.R_after (ok := (fun k_ => some k_ ≠ (.slice Ao20 t196.length co20 : Value).ownBlock)) (by (with_reducible repeat (first | apply Kd.R_alloc | apply Kd.R_drewN | apply Kd.R_drew)); exact HO206.out) hg hat); have n2_ := Aside0.mk (Kd.R_over' (by (with_reducible repeat (first | apply Kd.R_alloc | apply Kd.R_drewN | apply Kd.R_drew)); exact HO209.out) (Kd.R_typed (by (with_reducible repeat (first | apply Kd.R_alloc | apply Kd.R_drewN | apply Kd.R_drew)); exact HO212.out)) (by decide) hg); have n3_ := Aside0.mk (hb); have n4_ := Aside0.mk (ho); clear HO200; clear HO206; clear HO209; clear HB; clear HO212; have HO200 := n0_; have HO206 := n1_; have HO209 := n2_; have HB := n3_; have HO215 := n4_; clear n0_ n1_ n2_ n3_ n4_; clear ho hb hg hat; obtain ⟨Ao26, co26, eo26⟩ := Kd.R_slice HO215.out; subst eo26) | ((with_reducible refine gate_callee (f := 17) rfl ?_); refine goesL_ (some 37) rfl rfl Try.func17 (by kernel_rfl) rfl #[.slice Ao26 y213.length co26, .int .i64 t197, .int .i64 t198] rfl (by (try simp only [List.map_toArray, List.map_cons, List.map_nil]); first | done | rfl | (simp only [List.length_drop, List.length_take]; rfl)) ?_; (with_reducible refine (impl_BitFirst.calls k _ _ y213 t197 t198 t216 _ ?side1 ?side2 A7.out).mono ?_); (case side1 => repeat (first | exact (Kd.R_reads' HO215.out).2.2 | (with_reducible refine Kd.C_alloc ?_ _) | (with_reducible refine Kd.C_drewN ?_ _) | (with_reducible refine Kd.C_drew ?_))); (case side2 => exact (Kd.R_reads' HO215.out).2.1); rintro e w27 ⟨rfl, hb⟩; refine ⟨_, rfl, ?_⟩; have n0_ := Aside0.mk (Kd.R_below (by (with_reducible repeat (first | apply Kd.R_alloc | apply Kd.R_drewN | apply Kd.R_drew)); exact HO200.out) hb); have n1_ := Aside0.mk (Kd.R_below (by (with_reducible repeat (first | apply Kd.R_alloc | apply Kd.R_drewN | apply Kd.R_drew)); exact HO206.out) hb); have n2_ := Aside0.mk (Kd.R_below (by (with_reducible repeat (first | apply Kd.R_alloc | apply Kd.R_drewN | apply Kd.R_drew)); exact HO209.out) hb); have n3_ := Aside0.mk (Kd.R_below (by (with_reducible repeat (first | apply Kd.R_alloc | apply Kd.R_drewN | apply Kd.R_drew)); exact HO215.out) hb); have n4_ := Aside0.mk (below_step (by repeat (first | (with_reducible first | exact HB.out | apply below_alloc | apply pw_below_drewN | apply below_drew1) | exact HB.out)) hb); clear HO200; clear HO206; clear HO209; clear HO215; clear HB; have HO200 := n0_; have HO206 := n1_; have HO209 := n2_; have HO215 := n3_; have HB := n4_; clear n0_ n1_ n2_ n3_ n4_; (try clear hb); (try clear hb2); (try clear hk); (try clear hi); obtain ⟨Ao28, co28, eo28⟩ := Kd.R_slice HO209.out; subst eo28) | (go_at_call 18; (with_reducible refine (impl_BitCount.calls k _ _ t196 t197 t198 t217 _ ?side1 ?side2 A15.out).mono ?_); (case side1 => repeat (first | exact (Kd.R_reads' HO200.out).2.2 | (with_reducible refine Kd.C_alloc ?_ _) | (with_reducible refine Kd.C_drewN ?_ _) | (with_reducible refine Kd.C_drew ?_))); (case side2 => exact (Kd.R_reads' HO200.out).2.1); rintro e w29 ⟨rfl, hb⟩; have n0_ := Aside0.mk (Kd.R_below (by (with_reducible repeat (first | apply Kd.R_alloc | apply Kd.R_drewN | apply Kd.R_drew)); exact HO200.out) hb); have n1_ := Aside0.mk (Kd.R_below (by (with_reducible repeat (first | apply Kd.R_alloc | apply Kd.R_drewN | apply Kd.R_drew)); exact HO206.out) hb); have n2_ := Aside0.mk (Kd.R_below (by (with_reducible repeat (first | apply Kd.R_alloc | apply Kd.R_drewN | apply Kd.R_drew)); exact HO209.out) hb); have n3_ := Aside0.mk (Kd.R_below (by (with_reducible repeat (first | apply Kd.R_alloc | apply Kd.R_drewN | apply Kd.R_drew)); exact HO215.out) hb); have n4_ := Aside0.mk (below_step (by repeat (first | (with_reducible first | exact HB.out | apply below_alloc | apply pw_below_drewN | apply below_drew1) | exact HB.out)) hb); clear HO200; clear HO206; clear HO209; clear HO215; clear HB; have HO200 := n0_; have HO206 := n1_; have HO209 := n2_; have HO215 := n3_; have HB := n4_; clear n0_ n1_ n2_ n3_ n4_; (try clear hb); (try clear hb2); (try clear hk); (try clear hi)))
              go_ret
              exact ⟨by first | rfl | (simp [errW_none, errW_some] <;> rfl) | (simp only [← hji8, ← hji9, ← hji10, ← hji11]; first | rfl | (simp [errW_none, errW_some] <;> rfl)) | (simp [*, errW_none, errW_some] <;> rfl), by repeat (first | (with_reducible first | exact HB.out | apply below_alloc | apply pw_below_drewN | apply below_drew1) | exact HB.out)⟩
            · rw [if_neg c14] at H
              have c14b0 : (t216 == (-1)) = false := beq_eq_false_iff_ne.mpr c14
              have c14b1 : (t216 != (-1)) = true := bne_iff_ne.mpr c14
              exact absurd ((Option.some.inj H).trans hrt.out) (by simp)
          · rw [if_neg c13] at H
            have c13b0 : ((t207.length : Int) == 0) = false := beq_eq_false_iff_ne.mpr c13
            have c13b1 : ((t207.length : Int) != 0) = true := bne_iff_ne.mpr c13
            have c13b2 : ¬ (t207 = []) := fun h_ => c13 (by rw [h_]; rfl)
            exact absurd ((Option.some.inj H).trans hrt.out) (by simp)
        · rw [if_neg c12] at H
          have c12b0 : decide (2048 < (t196.length : Int)) = false := decide_eq_false c12
          have c12b1 : decide (2048 < t196.length) = false := decide_eq_false (by omega)
          clear c12
          have H' := Aside0.mk H
          clear H
          go_enter Try.func4, Try.ntmps4
          go_wp2_with (first | ((with_reducible refine gate_callee (f := 16) rfl ?_); refine goesL_ (some 22) rfl rfl Try.func16 (by kernel_rfl) rfl #[.slice A0 l0.length c0] rfl (by (try simp only [List.map_toArray, List.map_cons, List.map_nil]); first | done | rfl | (simp only [List.length_drop, List.length_take]; rfl)) ?_; (with_reducible refine (spec_DrawBitRuns.calls k _ _ l0 t196 t197 t198 _ ?side1 ?side2 A3.out).mono ?_); (case side1 => repeat (first | exact HR0.out | (with_reducible refine Kd.C_alloc ?_ _) | (with_reducible refine Kd.C_drewN ?_ _) | (with_reducible refine Kd.C_drew ?_))); (case side2 => exact HC0.out); rintro e w30 ⟨v199, rfl, ho0, hb⟩; refine ⟨_, rfl, ?_⟩; have n0_ := Aside0.mk (Kd.R_lower ho0 (below_size (by repeat (first | (with_reducible first | exact HB.out | apply below_alloc | apply pw_below_drewN | apply below_drew1) | exact HB.out)))); have n1_ := Aside0.mk (below_step (by repeat (first | (with_reducible first | exact HB.out | apply below_alloc | apply pw_below_drewN | apply below_drew1) | exact HB.out)) hb); clear HB; have HO200 := n0_; have HB := n1_; clear n0_ n1_; (try clear hb); (try clear hb2); (try clear hk); (try clear hi); (try clear ho0)) | ((with_reducible refine gate_dst (N := 26) rfl ?_); (try (refine gate_guard (by rfl) ?_; dsimp only)); refine Kd.R_lit (Kd.int .u8) _ 5 ?hg (N := 26) ?hd (xs := ([] : List Int)) (inner := []) (ok := fun _ => True) (okp := fun _ => True) ?hr ?hp (fun _ hk => hk) trivial (Below.refl _ _) (Nat.le_refl _) (by simp) ?_; (case hd => rfl); (case hg => rfl); (case hr => first | (go_simp; done) | (go_simp; rfl)); (case hp => exact (Reps.none _ _)); intro v202 w31 ho32 hb hg_ hnew_; clear hg_ hnew_; (first | rw [← Ny201.out] at ho32 | (simp only [Int.reduceToNat] at ho32; rw [← Ny201.out] at ho32)); have n0_ := Aside0.mk (Kd.R_elder' (by (with_reducible repeat (first | apply Kd.R_alloc | apply Kd.R_drewN | apply Kd.R_drew)); exact HO200.out) (Kd.R_base ho32) hb); have n1_ := Aside0.mk (Kd.R_lower (Kd.R_new' ho32 (Kd.R_lt (by (with_reducible repeat (first | apply Kd.R_alloc | apply Kd.R_drewN | apply Kd.R_drew)); exact HO200.out))) (below_size (by repeat (first | (with_reducible first | exact HB.out | apply below_alloc | apply pw_below_drewN | apply below_drew1) | exact HB.out)))); have n2_ := Aside0.mk (below_step (by repeat (first | (with_reducible first | exact HB.out | apply below_alloc | apply pw_below_drewN | apply below_drew1) | exact HB.out)) hb); clear HO200; clear HB; have HO200 := n0_; have HO203 := n1_; have HB := n2_; clear n0_ n1_ n2_; clear hb ho32; obtain ⟨Ao34, co34, eo34⟩ := Kd.R_slice HO200.out; subst eo34) | ((with_reducible refine gate_builtin (b := .append) (xs := #[.tmp 26, .tmp 27]) rfl ?_); (try (refine gate_guard (by rfl) ?_; dsimp only)); at_builtin; refine Kd.R_append_rows (Kd.int .u8) (w0 := w) w.heap.size rfl (.tmp 26) (.tmp 27) 22 5 (.int .u8 0) 1 rfl Try.underlying22 info5 rfl (by decide) (by omega) v202 y201 t196 _ _ _ (fun k_ => some k_ ≠ (.slice Ao34 t196.length co34 : Value).ownBlock) (fun _ => False) rfl rfl ?aO ?aR (fun _ _ h => h) (fun _ h => h.elim) ?aF ?aB ?aS ?aL ?_; (case aR => repeat (first | exact (Kd.R_reads' HO200.out).2.2 | (with_reducible refine Kd.C_alloc ?_ _) | (with_reducible refine Kd.C_drewN ?_ _) | (with_reducible refine Kd.C_drew ?_))); (case aB => exact (by repeat (first | (with_reducible first | exact HB.out | apply below_alloc | apply pw_below_drewN | apply below_drew1) | exact HB.out))); (case aF => exact (fun k_ hk => Kd.fresh' (Kd.R_lt (by (with_reducible repeat (first | apply Kd.R_alloc | apply Kd.R_drewN | apply Kd.R_drew)); exact HO200.out)) k_ hk)); (case aO => exact (by (with_reducible repeat (first | apply Kd.R_alloc | apply Kd.R_drewN | apply Kd.R_drew)); exact Kd.R_mono HO203.out (fun _ hk => hk.2))); (case aS => exact (below_size (by repeat (first | (with_reducible first | exact HB.out | apply below_alloc | apply pw_below_drewN | apply below_drew1) | exact HB.out)))); (case aL => have := LMc4.out; omega); intro v205 w33 ho hb hg hat; rw [← Ny204.out] at ho; have n0_ := Aside0.mk (Kd.R_after (ok := (fun _ => True)) (by (with_reducible repeat (first | apply Kd.R_alloc | apply Kd.R_drewN | apply Kd.R_drew)); exact HO200.out) hg hat); have n1_ := Aside0.mk (hb); have n2_ := Aside0.mk (ho); clear HO200; clear HB; clear HO203; have HO200 := n0_; have HB := n1_; have HO206 := n2_; clear n0_ n1_ n2_; clear ho hb hg hat; obtain ⟨Ao35, co35, eo35⟩ := Kd.R_slice HO206.out; subst eo35) | ((with_reducible refine gate_callee (f := 10) rfl ?_); refine goesL_ (some 31) rfl rfl Try.func10 (by kernel_rfl) rfl #[.slice Ao35 y204.length co35, .int .i64 t197, .int .i64 t198] rfl (by (try simp only [List.map_toArray, List.map_cons, List.map_nil]); first | done | rfl | (simp only [List.length_drop, List.length_take]; rfl)) ?_; (with_reducible refine (impl_BitRuns.calls _ _ y204 t197 t198 t207 _ ?side1 ?side2 A5.out).mono ?_); (case side1 => repeat (first | exact (Kd.R_reads' HO206.out).2.2 | (with_reducible refine Kd.C_alloc ?_ _) | (with_reducible refine Kd.C_drewN ?_ _) | (with_reducible refine Kd.C_drew ?_))); (case side2 => exact (Kd.R_reads' HO206.out).2.1); rintro e w36 ⟨v208, rfl, ho0, hb⟩; refine ⟨_, rfl, ?_⟩; have n0_ := Aside0.mk (Kd.R_below (by (with_reducible repeat (first | apply Kd.R_alloc | apply Kd.R_drewN | apply Kd.R_drew)); exact HO200.out) hb); have n1_ := Aside0.mk (Kd.R_below (by (with_reducible repeat (first | apply Kd.R_alloc | apply Kd.R_drewN | apply Kd.R_drew)); exact HO206.out) hb); have n2_ := Aside0.mk (Kd.R_lower ho0 (below_size (by repeat (first | (with_reducible first | exact HB.out | apply below_alloc | apply pw_below_drewN | apply below_drew1) | exact HB.out)))); have n3_ := Aside0.mk (below_step (by repeat (first | (with_reducible first | exact HB.out | apply below_alloc | apply pw_below_drewN | apply below_drew1) | exact HB.out)) hb); clear HO200; clear HO206; clear HB; have HO200 := n0_; have HO206 := n1_; have HO209 := n2_; have HB := n3_; clear n0_ n1_ n2_ n3_; (try clear hb); (try clear hb2); (try clear hk); (try clear hi); (try clear ho0)) | ((with_reducible refine gate_dst (N := 32) rfl ?_); (try (refine gate_guard (by rfl) ?_; dsimp only)); refine Kd.R_lit (Kd.int .u8) _ 5 ?hg (N := 32) ?hd (xs := ([] : List Int)) (inner := []) (ok := fun _ => True) (okp := fun _ => True) ?hr ?hp (fun _ hk => hk) trivial (Below.refl _ _) (Nat.le_refl _) (by simp) ?_; (case hd => rfl); (case hg => rfl); (case hr => first | (go_simp; done) | (go_simp; rfl)); (case hp => exact (Reps.none _ _)); intro v211 w37 ho38 hb hg_ hnew_; clear hg_ hnew_; (first | rw [← Ny210.out] at ho38 | (simp only [Int.reduceToNat] at ho38; rw [← Ny210.out] at ho38)); have n0_ := Aside0.mk (Kd.R_elder' (by (with_reducible repeat (first | apply Kd.R_alloc | apply Kd.R_drewN | apply Kd.R_drew)); exact HO200.out) (Kd.R_base ho38) hb); have n1_ := Aside0.mk (Kd.R_elder' (by (with_reducible repeat (first | apply Kd.R_alloc | apply Kd.R_drewN | apply Kd.R_drew)); exact HO206.out) (Kd.R_base ho38) hb); have n2_ := Aside0.mk (Kd.R_below (by (with_reducible repeat (first | apply Kd.R_alloc | apply Kd.R_drewN | apply Kd.R_drew)); exact HO209.out) hb); have n3_ := Aside0.mk (Kd.R_lower (Kd.R_new' (Kd.R_new' ho38 (Kd.R_lt (by (with_reducible repeat (first | apply Kd.R_alloc | apply Kd.R_drewN | apply Kd.R_drew)); exact HO200.out))) (Kd.R_lt (by (with_reducible repeat (first | apply Kd.R_alloc | apply Kd.R_drewN | apply Kd.R_drew)); exact HO206.out))) (below_size (by repeat (first | (with_reducible first | exact HB.out | apply below_alloc | apply pw_below_drewN | apply below_drew1) | exact HB.out)))); have n4_ := Aside0.mk (below_step (by repeat (first | (with_reducible first | exact HB.out | apply below_alloc | apply pw_below_drewN | apply below_drew1) | exact HB.out)) hb); clear HO200; clear HO206; clear HO209; clear HB; have HO200 := n0_; have HO206 := n1_; have HO209 := n2_; have HO212 := n3_; have HB := n4_; clear n0_ n1_ n2_ n3_ n4_; clear hb ho38) | ((with_reducible refine gate_builtin (b := .append) (xs := #[.tmp 32, .tmp 33]) rfl ?_); (try (refine gate_guard (by rfl) ?_; dsimp only)); at_builtin; refine Kd.R_append_rows (Kd.int .u8) (w0 := w) w.heap.size rfl (.tmp 32) (.tmp 33) 22 5 (.int .u8 0) 1 rfl Try.underlying22 info5 rfl (by decide) (by omega) v211 y210 t196 _ _ _ (fun k_ => some k_ ≠ (.slice Ao34 t196.length co34 : Value).ownBlock ∧ some k_ ≠ (.slice Ao35 y204.length co35 : Value).ownBlock) (fun _ => False) rfl rfl ?aO ?aR (fun _ _ h => h) (fun _ h => h.elim) ?aF ?aB ?aS ?aL ?_; (case aR => repeat (first | exact (Kd.R_reads' HO200.out).2.2 | (with_reducible refine Kd.C_alloc ?_ _) | (with_reducible refine Kd.C_drewN ?_ _) | (with_reducible refine Kd.C_drew ?_))); (case aB => exact (by repeat (first | (with_reducible first | exact HB.out | apply below_alloc | apply pw_below_drewN | apply below_drew1) | exact HB.out))); (case aF => exact (fun k_ hk => ⟨Kd.fresh' (Kd.R_lt (by (with_reducible repeat (first | apply Kd.R_alloc | apply Kd.R_drewN | apply Kd.R_drew)); exact HO200.out)) k_ hk, Kd.fresh' (Kd.R_lt (by (with_reducible repeat (first | apply Kd.R_alloc | apply Kd.R_drewN | apply Kd.R_drew)); exact HO206.out)) k_ hk⟩)); (case aO => exact (by (with_reducible repeat (first | apply Kd.R_alloc | apply Kd.R_drewN | apply Kd.R_drew)); exact Kd.R_mono HO212.out (fun _ hk => ⟨hk.1.2, hk.2⟩))); (case aS => exact (below_size (by repeat (first | (with_reducible first | exact HB.out | apply below_alloc | apply pw_below_drewN | apply below_drew1) | exact HB.out)))); (case aL => have := LMc6.out; omega); intro v214 w39 ho hb hg hat; rw [← Ny213.out] at ho; have n0_ := Aside0.mk (Kd.R_after (ok := (fun k_ => some k_ ≠ (.slice Ao35 y204.length co35 : Value).ownBlock)) (by (with_reducible repeat (first | apply Kd.R_alloc | apply Kd.R_drewN | apply Kd.R_drew)); exact Kd.R_mono HO200.out (fun _ hk => ⟨hk.1.2, hk.2⟩)) hg hat); have n1_ := Aside0.mk (Kd.R_after (ok := (fun k_ => some k_ ≠ (.slice Ao34 t196.length co34 : Value).ownBlock)) (by (with_reducible repeat (first | apply Kd.R_alloc | apply Kd.R_drewN | apply Kd.R_drew)); exact HO206.out) hg hat); have n2_ := Aside0.mk (Kd.R_over' (by (with_reducible repeat (first | apply Kd.R_alloc | apply Kd.R_drewN | apply Kd.R_drew)); exact HO209.out) (Kd.R_typed (by (with_reducible repeat (first | apply Kd.R_alloc | apply Kd.R_drewN | apply Kd.R_drew)); exact HO212.out)) (by decide) hg); have n3_ := Aside0.mk (hb); have n4_ := Aside0.mk (ho); clear HO200; clear HO206; clear HO209; clear HB; clear HO212; have HO200 := n0_; have HO206 := n1_; have HO209 := n2_; have HB := n3_; have HO215 := n4_; clear n0_ n1_ n2_ n3_ n4_; clear ho hb hg hat; obtain ⟨Ao40, co40, eo40⟩ := Kd.R_slice HO215.out; subst eo40) | ((with_reducible refine gate_callee (f := 17) rfl ?_); refine goesL_ (some 37) rfl rfl Try.func17 (by kernel_rfl) rfl #[.slice Ao40 y213.length co40, .int .i64 t197, .int .i64 t198] rfl (by (try simp only [List.map_toArray, List.map_cons, List.map_nil]); first | done | rfl | (simp only [List.length_drop, List.length_take]; rfl)) ?_; (with_reducible refine (impl_BitFirst.calls k _ _ y213 t197 t198 t216 _ ?side1 ?side2 A7.out).mono ?_); (case side1 => repeat (first | exact (Kd.R_reads' HO215.out).2.2 | (with_reducible refine Kd.C_alloc ?_ _) | (with_reducible refine Kd.C_drewN ?_ _) | (with_reducible refine Kd.C_drew ?_))); (case side2 => exact (Kd.R_reads' HO215.out).2.1); rintro e w41 ⟨rfl, hb⟩; refine ⟨_, rfl, ?_⟩; have n0_ := Aside0.mk (Kd.R_below (by (with_reducible repeat (first | apply Kd.R_alloc | apply Kd.R_drewN | apply Kd.R_drew)); exact HO200.out) hb); have n1_ := Aside0.mk (Kd.R_below (by (with_reducible repeat (first | apply Kd.R_alloc | apply Kd.R_drewN | apply Kd.R_drew)); exact HO206.out) hb); have n2_ := Aside0.mk (Kd.R_below (by (with_reducible repeat (first | apply Kd.R_alloc | apply Kd.R_drewN | apply Kd.R_drew)); exact HO209.out) hb); have n3_ := Aside0.mk (Kd.R_below (by (with_reducible repeat (first | apply Kd.R_alloc | apply Kd.R_drewN | apply Kd.R_drew)); exact HO215.out) hb); have n4_ := Aside0.mk (below_step (by repeat (first | (with_reducible first | exact HB.out | apply below_alloc | apply pw_below_drewN | apply below_drew1) | exact HB.out)) hb); clear HO200; clear HO206; clear HO209; clear HO215; clear HB; have HO200 := n0_; have HO206 := n1_; have HO209 := n2_; have HO215 := n3_; have HB := n4_; clear n0_ n1_ n2_ n3_ n4_; (try clear hb); (try clear hb2); (try clear hk); (try clear hi)))
          go_loopg [10, 11, 12] k (fun kq v10 v11 v12 w' => ∃ (x10_1 : Int) (x11_1 : Int) (x12_1 : Int), v10 = .int .i64 x10_1 ∧ v11 = .int .i64 x11_1 ∧ v12 = .int .i64 x12_1 ∧ Aside0 (laws_FnBits.l0 kq t196 t197 t198 t207 t216 ji9 ji11 x10_1 x11_1 x12_1 = some r) ∧ Aside0 (kq ≤ k) ∧ Aside0 (Kd.R (Kd.int .u8) 5 w' w.heap.size (fun _ => True) (.slice Ao34 t196.length co34) t196) ∧ Aside0 (Kd.R k35 35 w' w.heap.size (fun _ => True) v208 t207) ∧ Aside0 (Below w.heap.size w w'))
          case atStart => exact ⟨(0), (ji9), (0), (by first | rfl | (simp; done) | (simp [*]; done)), (by first | rfl | (simp; done) | (simp only [← hji9] <;> (first | rfl | simp)) | (simp [*]; done)), (by first | rfl | (simp; done) | (simp [*]; done)), H', ⟨Nat.le_refl _⟩, ⟨by (with_reducible repeat (first | apply Kd.R_alloc | apply Kd.R_drewN | apply Kd.R_drew)); exact Kd.R_mono HO200.out (fun _ hk => trivial)⟩, ⟨by (with_reducible repeat (first | apply Kd.R_alloc | apply Kd.R_drewN | apply Kd.R_drew)); exact HO209.out⟩, ⟨by repeat (first | (with_reducible first | exact HB.out | apply below_alloc | apply pw_below_drewN | apply below_drew1) | exact HB.out)⟩⟩
          case round =>
            clear H'
            try clear c1
            try clear c2
            try clear c2b0
            try clear c2b1
            try clear p2
            try clear c4
            try clear c6
            try clear p6
            try clear c10
            try clear c12
            try clear c12b0
            try clear c12b1
            try clear c13
            try clear c13b0
            try clear c13b1
            try clear c13b2
            try clear c14
            try clear c14b0
            try clear c14b1
            try clear c16
            try clear c17
            obtain ⟨x10_1, x11_1, x12_1, rfl, rfl, rfl, HA, HK1, HO_3, HO_6, HB⟩ := hrel
            cases gk with
            | zero => exact absurd HA.out (by simp [laws_FnBits.l0])
            | succ k1 =>
              have H := HA.out
              clear HA
              simp only [laws_FnBits.l0] at H
              by_cases c42 : x12_1 < (t207.length : Int)
              · rw [if_pos c42] at H
                have c42b0 : decide (x12_1 < (t207.length : Int)) = true := decide_eq_true c42
                clear c42
                by_cases c43 : 0 ≤ x12_1
                · rw [if_pos c43] at H
                  have c43b0 : decide (0 ≤ x12_1) = true := decide_eq_true c43
                  clear c43
                  have HC44 := Aside0.mk H
                  clear H
                  obtain ⟨Ao45, co45, eo45⟩ := Kd.R_slice HO_6.out
                  subst eo45
                  have p218 : 0 ≤ (x12_1 : Int) := of_decide_eq_true (by first | (with_reducible assumption) | assumption)
                  have q218 : x12_1 < (t207.length : Int) := of_decide_eq_true (by first | (with_reducible assumption) | assumption)
                  obtain ⟨ad218, e218, hx218_0, hx218_1⟩ := at_T35 (Kd.R_reads' HO_6.out).2.2 x12_1 p218 q218
                  cases e218
                  replace p218 := eq_true p218
                  replace q218 := eq_true q218
                  go_upto_region 16 with (first | ((with_reducible refine gate_dst (N := 13) rfl ?_); (try (refine gate_guard (by rfl) ?_; dsimp only)); refine box_event ?hg (N := 13) ?hd (cs := #[.int .i64 0, .int .i64 0]) (t := 35) ?hr ?_; (case hd => rfl); (case hg => rfl); (case hr => first | (go_simp; done) | (go_simp; rfl)); intro gb219 hg w46 hbox hb; have n0_ := Aside0.mk (Kd.R_below (by (with_reducible repeat (first | apply Kd.R_alloc | apply Kd.R_drewN | apply Kd.R_drew)); exact HO_3.out) hb); have n1_ := Aside0.mk (Kd.R_below (Kd.R_elderB (by (with_reducible repeat (first | apply Kd.R_alloc | apply Kd.R_drewN | apply Kd.R_drew)); exact HO_6.out) gb219 (Nat.le_of_eq hg.symm)) hb); have n2_ := Aside0.mk (below_step (by repeat (first | (with_reducible first | exact HB.out | apply below_alloc | apply pw_below_drewN | apply below_drew1) | exact HB.out)) hb); have n3_ := Aside0.mk (hbox); have n4_ := Aside0.mk ((by rw [hg]; exact (below_size (by repeat (first | (with_reducible first | exact HB.out | apply below_alloc | apply pw_below_drewN | apply below_drew1) | exact HB.out))) : w.heap.size ≤ gb219)); have n5_ := Aside0.mk ((by rw [hg]; exact (below_size (by repeat (first | (with_reducible first | exact HB.out | apply below_alloc | apply pw_below_drewN | apply below_drew1) | exact HB.out))) : w.heap.size ≤ gb219)); clear HO_3; clear HO_6; clear HB; have HO_3 := n0_; have HO_6 := n1_; have HB := n2_; have BK219 := n3_; have GW219 := n4_; have GE219 := n5_; clear n0_ n1_ n2_ n3_ n4_ n5_; clear hb hbox hg; have hcz47_0 : w46.cell? ⟨gb219, 0, none⟩ = some (.int .i64 0) := (blk_cell BK219.out 0).trans rfl; have hcz47_1 : w46.cell? ⟨gb219, 1, none⟩ = some (.int .i64 0) := (blk_cell BK219.out 1).trans rfl; have hfz47_0 := blk_frozen BK219.out 0; have hfz47_1 := blk_frozen BK219.out 1))
                  (try simp only [Act.put, List.setIfInBounds_toArray, List.set_cons_zero, List.set_cons_succ])
                  go_cut [106] (fun v106 wc => ∃ (kq : Nat) (x106_43 : Bool), v106 = .bool x106_43 ∧ Aside0 (laws_FnBits.j1 kq t196 t197 t198 t207 t216 ji9 ji11 x10_1 x12_1 x106_43 ((rd_T35 t207 x12_1).f0) ((rd_T35 t207 x12_1).f1) = some r) ∧ Aside0 (kq ≤ k1) ∧ Aside0 (Kd.R (Kd.int .u8) 5 wc w.heap.size (fun _ => True) (.slice Ao34 t196.length co34) t196) ∧ Aside0 (Kd.R k35 35 wc w.heap.size (fun k_ => k_ ≠ gb219) (.slice (some ad218) t207.length co45) t207) ∧ Aside0 (wc.heap[gb219]? = some (.cells #[.int .i64 ((rd_T35 t207 x12_1).f0), .int .i64 ((rd_T35 t207 x12_1).f1)] 35 (0, 0))) ∧ Aside0 (Below w.heap.size w wc))
                  case first =>
                    have H := HC44.out
                    clear HC44
                    by_cases c48 : ((rd_T35 t207 x12_1).f1) < 1
                    · rw [if_pos c48] at H
                      have c48b0 : decide (((rd_T35 t207 x12_1).f1) < 1) = true := decide_eq_true c48
                      clear c48
                      (first | rw [c48b0] | (simp only [i64_w, i32_w]; rw [c48b0]) | skip)
                      have H' := Aside0.mk H
                      clear H
                      have hcz49_0 : w46.cell? ⟨gb219, 0, none⟩ = some (.int .i64 0) := (blk_cell BK219.out 0).trans rfl
                      have hcz49_1 : w46.cell? ⟨gb219, 1, none⟩ = some (.int .i64 0) := (blk_cell BK219.out 1).trans rfl
                      have hfz49_0 := blk_frozen BK219.out 0
                      have hfz49_1 := blk_frozen BK219.out 1
                      go_wp2
                      go_meet
                      case rel => exact ⟨_, (true), (by first | rfl | (simp; done) | (simp [*]; done)), H', ⟨by have := HK1.out; first | omega | exact Nat.le_refl _⟩, ⟨by (with_reducible repeat (first | apply Kd.R_alloc | apply Kd.R_drewN | apply Kd.R_drew)); exact Kd.R_mono (Kd.R_far (p := ⟨gb219, 1, none⟩) (Kd.R_far (p := ⟨gb219, 0, none⟩) (Kd.R_types HO_3.out BK219.out (by decide)) (fun _ hk => hk.2) (.int .i64 ((rd_T35 t207 x12_1).f0))) (fun _ hk => hk.2) (.int .i64 ((rd_T35 t207 x12_1).f1))) (fun _ hk => trivial)⟩, ⟨by (with_reducible repeat (first | apply Kd.R_alloc | apply Kd.R_drewN | apply Kd.R_drew)); exact Kd.R_mono (Kd.R_far (p := ⟨gb219, 1, none⟩) (Kd.R_far (p := ⟨gb219, 0, none⟩) (Kd.R_mono HO_6.out (fun k_ hk => (⟨hk, hk.2⟩ : _ ∧ k_ ≠ gb219))) (fun _ hk => hk.2) (.int .i64 ((rd_T35 t207 x12_1).f0))) (fun _ hk => hk.2) (.int .i64 ((rd_T35 t207 x12_1).f1))) (fun _ hk => hk.1.2)⟩, ⟨by (with_reducible repeat (first | refine blk_drewN ?_ _ | refine blk_drew ?_ | refine blk_alloc ?_ _)); refine blk_put (cs := #[.int .i64 ((rd_T35 t207 x12_1).f0), .int .i64 0]) ?_ 1 _ rfl; (with_reducible repeat (first | refine blk_drewN ?_ _ | refine blk_drew ?_ | refine blk_alloc ?_ _)); refine blk_put (cs := #[.int .i64 0, .int .i64 0]) ?_ 0 _ rfl; (with_reducible repeat (first | refine blk_drewN ?_ _ | refine blk_drew ?_ | refine blk_alloc ?_ _)); exact BK219.out⟩, ⟨by repeat (first | (with_reducible first | exact HB.out | apply below_alloc | apply pw_below_drewN | apply below_drew1 | refine below_set ?_ GE219.out) | exact HB.out)⟩⟩
                    · rw [if_neg c48] at H
                      have c48b0 : decide (((rd_T35 t207 x12_1).f1) < 1) = false := decide_eq_false c48
                      clear c48
                      (first | rw [c48b0] | (simp only [i64_w, i32_w]; rw [c48b0]) | skip)
                      by_cases c50 : ((rd_T35 t207 x12_1).f0) < x11_1
                      · rw [if_pos c50] at H
                        have c50b0 : decide (((rd_T35 t207 x12_1).f0) < x11_1) = true := decide_eq_true c50
                        clear c50
                        have H' := Aside0.mk H
                        clear H
                        have hcz51_0 : w46.cell? ⟨gb219, 0, none⟩ = some (.int .i64 0) := (blk_cell BK219.out 0).trans rfl
                        have hcz51_1 : w46.cell? ⟨gb219, 1, none⟩ = some (.int .i64 0) := (blk_cell BK219.out 1).trans rfl
                        have hfz51_0 := blk_frozen BK219.out 0
                        have hfz51_1 := blk_frozen BK219.out 1
                        go_wp2
                        go_meet
                        case rel => exact ⟨_, (true), (by first | rfl | (simp; done) | (simp [*]; done)), H', ⟨by have := HK1.out; first | omega | exact Nat.le_refl _⟩, ⟨by (with_reducible repeat (first | apply Kd.R_alloc | apply Kd.R_drewN | apply Kd.R_drew)); exact Kd.R_mono (Kd.R_far (p := ⟨gb219, 1, none⟩) (Kd.R_far (p := ⟨gb219, 0, none⟩) (Kd.R_types HO_3.out BK219.out (by decide)) (fun _ hk => hk.2) (.int .i64 ((rd_T35 t207 x12_1).f0))) (fun _ hk => hk.2) (.int .i64 ((rd_T35 t207 x12_1).f1))) (fun _ hk => trivial)⟩, ⟨by (with_reducible repeat (first | apply Kd.R_alloc | apply Kd.R_drewN | apply Kd.R_drew)); exact Kd.R_mono (Kd.R_far (p := ⟨gb219, 1, none⟩) (Kd.R_far (p := ⟨gb219, 0, none⟩) (Kd.R_mono HO_6.out (fun k_ hk => (⟨hk, hk.2⟩ : _ ∧ k_ ≠ gb219))) (fun _ hk => hk.2) (.int .i64 ((rd_T35 t207 x12_1).f0))) (fun _ hk => hk.2) (.int .i64 ((rd_T35 t207 x12_1).f1))) (fun _ hk => hk.1.2)⟩, ⟨by (with_reducible repeat (first | refine blk_drewN ?_ _ | refine blk_drew ?_ | refine blk_alloc ?_ _)); refine blk_put (cs := #[.int .i64 ((rd_T35 t207 x12_1).f0), .int .i64 0]) ?_ 1 _ rfl; (with_reducible repeat (first | refine blk_drewN ?_ _ | refine blk_drew ?_ | refine blk_alloc ?_ _)); refine blk_put (cs := #[.int .i64 0, .int .i64 0]) ?_ 0 _ rfl; (with_reducible repeat (first | refine blk_drewN ?_ _ | refine blk_drew ?_ | refine blk_alloc ?_ _)); exact BK219.out⟩, ⟨by repeat (first | (with_reducible first | exact HB.out | apply below_alloc | apply pw_below_drewN | apply below_drew1 | refine below_set ?_ GE219.out) | exact HB.out)⟩⟩
                      · rw [if_neg c50] at H
                        have c50b0 : decide (((rd_T35 t207 x12_1).f0) < x11_1) = false := decide_eq_false c50
                        clear c50
                        by_cases c52 : (wrap64 (((rd_T35 t207 x12_1).f0) + ((rd_T35 t207 x12_1).f1))) > ji11
                        · rw [if_pos c52] at H
                          have c52b0 : decide (ji11 < (wrap64 (((rd_T35 t207 x12_1).f0) + ((rd_T35 t207 x12_1).f1)))) = true := decide_eq_true c52
                          clear c52
                          have H' := Aside0.mk H
                          clear H
                          have hcz53_0 : w46.cell? ⟨gb219, 0, none⟩ = some (.int .i64 0) := (blk_cell BK219.out 0).trans rfl
                          have hcz53_1 : w46.cell? ⟨gb219, 1, none⟩ = some (.int .i64 0) := (blk_cell BK219.out 1).trans rfl
                          have hfz53_0 := blk_frozen BK219.out 0
                          have hfz53_1 := blk_frozen BK219.out 1
                          go_wp2
                          go_meet
                          case rel => exact ⟨_, (true), (by first | rfl | (simp; done) | (simp [*]; done)), H', ⟨by have := HK1.out; first | omega | exact Nat.le_refl _⟩, ⟨by (with_reducible repeat (first | apply Kd.R_alloc | apply Kd.R_drewN | apply Kd.R_drew)); exact Kd.R_mono (Kd.R_far (p := ⟨gb219, 1, none⟩) (Kd.R_far (p := ⟨gb219, 0, none⟩) (Kd.R_types HO_3.out BK219.out (by decide)) (fun _ hk => hk.2) (.int .i64 ((rd_T35 t207 x12_1).f0))) (fun _ hk => hk.2) (.int .i64 ((rd_T35 t207 x12_1).f1))) (fun _ hk => trivial)⟩, ⟨by (with_reducible repeat (first | apply Kd.R_alloc | apply Kd.R_drewN | apply Kd.R_drew)); exact Kd.R_mono (Kd.R_far (p := ⟨gb219, 1, none⟩) (Kd.R_far (p := ⟨gb219, 0, none⟩) (Kd.R_mono HO_6.out (fun k_ hk => (⟨hk, hk.2⟩ : _ ∧ k_ ≠ gb219))) (fun _ hk => hk.2) (.int .i64 ((rd_T35 t207 x12_1).f0))) (fun _ hk => hk.2) (.int .i64 ((rd_T35 t207 x12_1).f1))) (fun _ hk => hk.1.2)⟩, ⟨by (with_reducible repeat (first | refine blk_drewN ?_ _ | refine blk_drew ?_ | refine blk_alloc ?_ _)); refine blk_put (cs := #[.int .i64 ((rd_T35 t207 x12_1).f0), .int .i64 0]) ?_ 1 _ rfl; (with_reducible repeat (first | refine blk_drewN ?_ _ | refine blk_drew ?_ | refine blk_alloc ?_ _)); refine blk_put (cs := #[.int .i64 0, .int .i64 0]) ?_ 0 _ rfl; (with_reducible repeat (first | refine blk_drewN ?_ _ | refine blk_drew ?_ | refine blk_alloc ?_ _)); exact BK219.out⟩, ⟨by repeat (first | (with_reducible first | exact HB.out | apply below_alloc | apply pw_below_drewN | apply below_drew1 | refine below_set ?_ GE219.out) | exact HB.out)⟩⟩
                        · rw [if_neg c52] at H
                          have c52b0 : decide (ji11 < (wrap64 (((rd_T35 t207 x12_1).f0) + ((rd_T35 t207 x12_1).f1)))) = false := decide_eq_false c52
                          clear c52
                          by_cases c54 : x12_1 > 0
                          · rw [if_pos c54] at H
                            have c54b0 : decide (0 < x12_1) = true := decide_eq_true c54
                            clear c54
                            have H' := Aside0.mk H
                            clear H
                            have hcz55_0 : w46.cell? ⟨gb219, 0, none⟩ = some (.int .i64 0) := (blk_cell BK219.out 0).trans rfl
                            have hcz55_1 : w46.cell? ⟨gb219, 1, none⟩ = some (.int .i64 0) := (blk_cell BK219.out 1).trans rfl
                            have hfz55_0 := blk_frozen BK219.out 0
                            have hfz55_1 := blk_frozen BK219.out 1
                            go_wp2
                            go_meet
                            case rel => exact ⟨_, ((((rd_T35 t207 x12_1).f0) == x11_1)), (by first | rfl | (simp; done) | (simp [*]; done)), H', ⟨by have := HK1.out; first | omega | exact Nat.le_refl _⟩, ⟨by (with_reducible repeat (first | apply Kd.R_alloc | apply Kd.R_drewN | apply Kd.R_drew)); exact Kd.R_mono (Kd.R_far (p := ⟨gb219, 1, none⟩) (Kd.R_far (p := ⟨gb219, 0, none⟩) (Kd.R_types HO_3.out BK219.out (by decide)) (fun _ hk => hk.2) (.int .i64 ((rd_T35 t207 x12_1).f0))) (fun _ hk => hk.2) (.int .i64 ((rd_T35 t207 x12_1).f1))) (fun _ hk => trivial)⟩, ⟨by (with_reducible repeat (first | apply Kd.R_alloc | apply Kd.R_drewN | apply Kd.R_drew)); exact Kd.R_mono (Kd.R_far (p := ⟨gb219, 1, none⟩) (Kd.R_far (p := ⟨gb219, 0, none⟩) (Kd.R_mono HO_6.out (fun k_ hk => (⟨hk, hk.2⟩ : _ ∧ k_ ≠ gb219))) (fun _ hk => hk.2) (.int .i64 ((rd_T35 t207 x12_1).f0))) (fun _ hk => hk.2) (.int .i64 ((rd_T35 t207 x12_1).f1))) (fun _ hk => hk.1.2)⟩, ⟨by (with_reducible repeat (first | refine blk_drewN ?_ _ | refine blk_drew ?_ | refine blk_alloc ?_ _)); refine blk_put (cs := #[.int .i64 ((rd_T35 t207 x12_1).f0), .int .i64 0]) ?_ 1 _ rfl; (with_reducible repeat (first | refine blk_drewN ?_ _ | refine blk_drew ?_ | refine blk_alloc ?_ _)); refine blk_put (cs := #[.int .i64 0, .int .i64 0]) ?_ 0 _ rfl; (with_reducible repeat (first | refine blk_drewN ?_ _ | refine blk_drew ?_ | refine blk_alloc ?_ _)); exact BK219.out⟩, ⟨by repeat (first | (with_reducible first | exact HB.out | apply below_alloc | apply pw_below_drewN | apply below_drew1 | refine below_set ?_ GE219.out) | exact HB.out)⟩⟩
                          · rw [if_neg c54] at H
                            have c54b0 : decide (0 < x12_1) = false := decide_eq_false c54
                            clear c54
                            have H' := Aside0.mk H
                            clear H
                            have hcz56_0 : w46.cell? ⟨gb219, 0, none⟩ = some (.int .i64 0) := (blk_cell BK219.out 0).trans rfl
                            have hcz56_1 : w46.cell? ⟨gb219, 1, none⟩ = some (.int .i64 0) := (blk_cell BK219.out 1).trans rfl
                            have hfz56_0 := blk_frozen BK219.out 0
                            have hfz56_1 := blk_frozen BK219.out 1
                            go_wp2
                            go_meet
                            case rel => exact ⟨_, (false), (by first | rfl | (simp; done) | (simp [*]; done)), H', ⟨by have := HK1.out; first | omega | exact Nat.le_refl _⟩, ⟨by (with_reducible repeat (first | apply Kd.R_alloc | apply Kd.R_drewN | apply Kd.R_drew)); exact Kd.R_mono (Kd.R_far (p := ⟨gb219, 1, none⟩) (Kd.R_far (p := ⟨gb219, 0, none⟩) (Kd.R_types HO_3.out BK219.out (by decide)) (fun _ hk => hk.2) (.int .i64 ((rd_T35 t207 x12_1).f0))) (fun _ hk => hk.2) (.int .i64 ((rd_T35 t207 x12_1).f1))) (fun _ hk => trivial)⟩, ⟨by (with_reducible repeat (first | apply Kd.R_alloc | apply Kd.R_drewN | apply Kd.R_drew)); exact Kd.R_mono (Kd.R_far (p := ⟨gb219, 1, none⟩) (Kd.R_far (p := ⟨gb219, 0, none⟩) (Kd.R_mono HO_6.out (fun k_ hk => (⟨hk, hk.2⟩ : _ ∧ k_ ≠ gb219))) (fun _ hk => hk.2) (.int .i64 ((rd_T35 t207 x12_1).f0))) (fun _ hk => hk.2) (.int .i64 ((rd_T35 t207 x12_1).f1))) (fun _ hk => hk.1.2)⟩, ⟨by (with_reducible repeat (first | refine blk_drewN ?_ _ | refine blk_drew ?_ | refine blk_alloc ?_ _)); refine blk_put (cs := #[.int .i64 ((rd_T35 t207 x12_1).f0), .int .i64 0]) ?_ 1 _ rfl; (with_reducible repeat (first | refine blk_drewN ?_ _ | refine blk_drew ?_ | refine blk_alloc ?_ _)); refine blk_put (cs := #[.int .i64 0, .int .i64 0]) ?_ 0 _ rfl; (with_reducible repeat (first | refine blk_drewN ?_ _ | refine blk_drew ?_ | refine blk_alloc ?_ _)); exact BK219.out⟩, ⟨by repeat (first | (with_reducible first | exact HB.out | apply below_alloc | apply pw_below_drewN | apply below_drew1 | refine below_set ?_ GE219.out) | exact HB.out)⟩⟩
                  case rest =>
                    clear HC44
                    try clear c1
                    try clear c2
                    try clear c2b0
                    try clear c2b1
                    try clear p2
                    try clear q2
                    try clear hx2
                    try clear c4
                    try clear c5
                    try clear c6
                    try clear p6
                    try clear c10
                    try clear c12
                    try clear c12b0
                    try clear c12b1
                    try clear c13
                    try clear c13b0
                    try clear c13b1
                    try clear c13b2
                    try clear c14
                    try clear c14b0
                    try clear c14b1
                    try clear c16
                    try clear c17
                    try clear p21
                    try clear q21
                    try clear hx21
                    try clear c42
                    try clear c42b0
                    try clear c43
                    try clear c43b0
                    try clear c48
                    try clear c48b0
                    try clear c50
                    try clear c50b0
                    try clear c52
                    try clear c52b0
                    try clear c54
                    try clear c54b0
                    try clear hcz47_0
                    try clear hcz47_1
                    try clear hcz49_0
                    try clear hcz49_1
                    try clear hcz51_0
                    try clear hcz51_1
                    try clear hcz53_0
                    try clear hcz53_1
                    try clear hcz55_0
                    try clear hcz55_1
                    try clear hcz56_0
                    try clear hcz56_1
                    try clear hfz47_0
                    try clear hfz47_1
                    try clear hfz49_0
                    try clear hfz49_1
                    try clear hfz51_0
                    try clear hfz51_1
                    try clear hfz53_0
                    try clear hfz53_1
                    try clear hfz55_0
                    try clear hfz55_1
                    try clear hfz56_0
                    try clear hfz56_1
                    try clear hx218_0
                    try clear hx218_1
                    try clear p2
                    try clear p218
                    try clear p6
                    try clear q218
                    obtain ⟨kq, x106_43, rfl, HA, HJ43, HO_3, HO_6, BK219, HB⟩ := hcut
                    cases kq with
                    | zero => exact absurd HA.out (by simp [laws_FnBits.j1])
                    | succ kj43 =>
                      have H := HA.out
                      clear HA
                      simp only [laws_FnBits.j1] at H
                      by_cases c57 : x106_43 = true
                      · subst c57
                        have H1 : (some false) = some r := by rw [if_pos rfl] at H; exact H
                        clear H
                        have H := H1
                        clear H1
                        exact absurd ((Option.some.inj H).trans hrt.out) (by simp)
                      · replace c57 := Bool.eq_false_iff.mpr c57
                        subst c57
                        have H1 : (laws_FnBits.l1 kj43 t196 t197 t198 t207 t216 ji9 ji11 x10_1 x12_1 ((rd_T35 t207 x12_1).f0) ((rd_T35 t207 x12_1).f0) ((rd_T35 t207 x12_1).f1)) = some r := by rw [if_neg (show ¬ (false = true) by decide)] at H; exact H
                        clear H
                        have H := H1
                        clear H1
                        have H' := Aside0.mk H
                        clear H
                        have hcz58_0 : wc.cell? ⟨gb219, 0, none⟩ = some (.int .i64 ((rd_T35 t207 x12_1).f0)) := (blk_cell BK219.out 0).trans rfl
                        have hcz58_1 : wc.cell? ⟨gb219, 1, none⟩ = some (.int .i64 ((rd_T35 t207 x12_1).f1)) := (blk_cell BK219.out 1).trans rfl
                        have hfz58_0 := blk_frozen BK219.out 0
                        have hfz58_1 := blk_frozen BK219.out 1
                        go_wp2
                        go_loopg [14] kj43 (fun kq v14 w' => ∃ (x14_3 : Int), v14 = .int .i64 x14_3 ∧ Aside0 (laws_FnBits.l1 kq t196 t197 t198 t207 t216 ji9 ji11 x10_1 x12_1 x14_3 ((rd_T35 t207 x12_1).f0) ((rd_T35 t207 x12_1).f1) = some r) ∧ Aside0 (kq ≤ kj43) ∧ Aside0 (Kd.R (Kd.int .u8) 5 w' w.heap.size (fun _ => True) (.slice Ao34 t196.length co34) t196) ∧ Aside0 (Kd.R k35 35 w' w.heap.size (fun k_ => k_ ≠ gb219) (.slice (some ad218) t207.length co45) t207) ∧ Aside0 (w'.heap[gb219]? = some (.cells #[.int .i64 ((rd_T35 t207 x12_1).f0), .int .i64 ((rd_T35 t207 x12_1).f1)] 35 (0, 0))) ∧ Aside0 (Below w.heap.size w w'))
                        case atStart => exact ⟨(((rd_T35 t207 x12_1).f0)), (by first | rfl | (simp; done) | (simp [*]; done)), H', ⟨Nat.le_refl _⟩, ⟨by (with_reducible repeat (first | apply Kd.R_alloc | apply Kd.R_drewN | apply Kd.R_drew)); exact HO_3.out⟩, ⟨by (with_reducible repeat (first | apply Kd.R_alloc | apply Kd.R_drewN | apply Kd.R_drew)); exact HO_6.out⟩, ⟨by (with_reducible repeat (first | refine blk_drewN ?_ _ | refine blk_drew ?_ | refine blk_alloc ?_ _)); exact BK219.out⟩, ⟨by repeat (first | (with_reducible first | exact HB.out | apply below_alloc | apply pw_below_drewN | apply below_drew1 | refine below_set ?_ GE219.out) | exact HB.out)⟩⟩
                        case round =>
                          clear H'
                          try clear c1
                          try clear c2
                          try clear c2b0
                          try clear c2b1
                          try clear p2
                          try clear q2
                          try clear hx2
                          try clear c4
                          try clear c5
                          try clear c6
                          try clear p6
                          try clear c10
                          try clear c12
                          try clear c12b0
                          try clear c12b1
                          try clear c13
                          try clear c13b0
                          try clear c13b1
                          try clear c13b2
                          try clear c14
                          try clear c14b0
                          try clear c14b1
                          try clear c16
                          try clear c17
                          try clear p21
                          try clear q21
                          try clear hx21
                          try clear c42
                          try clear c42b0
                          try clear c43
                          try clear c43b0
                          try clear c48
                          try clear c48b0
                          try clear c50
                          try clear c50b0
                          try clear c52
                          try clear c52b0
                          try clear c54
                          try clear c54b0
                          try clear c57
                          try clear hcz47_0
                          try clear hcz47_1
                          try clear hcz49_0
                          try clear hcz49_1
                          try clear hcz51_0
                          try clear hcz51_1
                          try clear hcz53_0
                          try clear hcz53_1
                          try clear hcz55_0
                          try clear hcz55_1
                          try clear hcz56_0
                          try clear hcz56_1
                          try clear hcz58_0
                          try clear hcz58_1
                          try clear hfz47_0
                          try clear hfz47_1
                          try clear hfz49_0
                          try clear hfz49_1
                          try clear hfz51_0
                          try clear hfz51_1
                          try clear hfz53_0
                          try clear hfz53_1
                          try clear hfz55_0
                          try clear hfz55_1
                          try clear hfz56_0
                          try clear hfz56_1
                          try clear hfz58_0
                          try clear hfz58_1
                          try clear hx218_0
                          try clear hx218_1
                          try clear p2
                          try clear p21
                          try clear p218
                          try clear p6
                          try clear q2
                          try clear q21
                          try clear q218
                          obtain ⟨x14_3, rfl, HA, HK3, HO_3, HO_6, BK219, HB⟩ := hrel
                          cases gk with
                          | zero => exact absurd HA.out (by simp [laws_FnBits.l1])
                          | succ k3 =>
                            have H := HA.out
                            clear HA
                            simp only [laws_FnBits.l1] at H
                            by_cases c59 : x14_3 < (wrap64 (((rd_T35 t207 x12_1).f0) + ((rd_T35 t207 x12_1).f1)))
                            · rw [if_pos c59] at H
                              have c59b0 : decide (x14_3 < (wrap64 (((rd_T35 t207 x12_1).f0) + ((rd_T35 t207 x12_1).f1)))) = true := decide_eq_true c59
                              clear c59
                              replace H := Option.bind_eq_some_iff.mp H
                              obtain ⟨t220, A600, H⟩ := H
                              replace H : (if t220 = true then (some false) else ((impl_BitGet.f t196 x14_3).bind fun t221 => (if t221 = true then (some false) else (laws_FnBits.l1 k3 t196 t197 t198 t207 t216 ji9 ji11 x10_1 x12_1 (wrap64 (x14_3 + 1)) ((rd_T35 t207 x12_1).f0) ((rd_T35 t207 x12_1).f1))))) = some r := H
                              have A60 := Aside0.mk A600
                              clear A600
                              by_cases c61 : t220 = true
                              · subst c61
                                have H1 : (some false) = some r := by rw [if_pos rfl] at H; exact H
                                clear H
                                have H := H1
                                clear H1
                                exact absurd ((Option.some.inj H).trans hrt.out) (by simp)
                              · replace c61 := Bool.eq_false_iff.mpr c61
                                subst c61
                                have H1 : ((impl_BitGet.f t196 x14_3).bind fun t221 => (if t221 = true then (some false) else (laws_FnBits.l1 k3 t196 t197 t198 t207 t216 ji9 ji11 x10_1 x12_1 (wrap64 (x14_3 + 1)) ((rd_T35 t207 x12_1).f0) ((rd_T35 t207 x12_1).f1)))) = some r := by rw [if_neg (show ¬ (false = true) by decide)] at H; exact H
                                clear H
                                have H := H1
                                clear H1
                                replace H := Option.bind_eq_some_iff.mp H
                                obtain ⟨t221, A620, H⟩ := H
                                replace H : (if t221 = true then (some false) else (laws_FnBits.l1 k3 t196 t197 t198 t207 t216 ji9 ji11 x10_1 x12_1 (wrap64 (x14_3 + 1)) ((rd_T35 t207 x12_1).f0) ((rd_T35 t207 x12_1).f1))) = some r := H
                                have A62 := Aside0.mk A620
                                clear A620
                                by_cases c63 : t221 = true
                                · subst c63
                                  have H1 : (some false) = some r := by rw [if_pos rfl] at H; exact H
                                  clear H
                                  have H := H1
                                  clear H1
                                  exact absurd ((Option.some.inj H).trans hrt.out) (by simp)
                                · replace c63 := Bool.eq_false_iff.mpr c63
                                  subst c63
                                  have H1 : (laws_FnBits.l1 k3 t196 t197 t198 t207 t216 ji9 ji11 x10_1 x12_1 (wrap64 (x14_3 + 1)) ((rd_T35 t207 x12_1).f0) ((rd_T35 t207 x12_1).f1)) = some r := by rw [if_neg (show ¬ (false = true) by decide)] at H; exact H
                                  clear H
                                  have H := H1
                                  clear H1
                                  have H' := Aside0.mk H
                                  clear H
                                  have hcz64_0 : wr.cell? ⟨gb219, 0, none⟩ = some (.int .i64 ((rd_T35 t207 x12_1).f0)) := (blk_cell BK219.out 0).trans rfl
                                  have hcz64_1 : wr.cell? ⟨gb219, 1, none⟩ = some (.int .i64 ((rd_T35 t207 x12_1).f1)) := (blk_cell BK219.out 1).trans rfl
                                  have hfz64_0 := blk_frozen BK219.out 0
                                  have hfz64_1 := blk_frozen BK219.out 1
                                  go_wp2_with (first | ((with_reducible refine gate_callee (f := 19) rfl ?_); refine goesL_ (some 120) rfl rfl Try.func19 (by kernel_rfl) rfl #[.slice Ao34 t196.length co34, .int .i64 x14_3] rfl (by (try simp only [List.map_toArray, List.map_cons, List.map_nil]); first | done | rfl | (simp only [List.length_drop, List.length_take]; rfl)) ?_; (with_reducible refine (spec_BitGet.calls k3 _ _ t196 x14_3 false _ ?side1 ?side2 A60.out).mono ?_); (case side1 => repeat (first | exact (Kd.R_reads' HO_3.out).2.2 | (with_reducible refine Kd.C_alloc ?_ _) | (with_reducible refine Kd.C_drewN ?_ _) | (with_reducible refine Kd.C_drew ?_))); (case side2 => exact (Kd.R_reads' HO_3.out).2.1); rintro e w' ⟨rfl, ⟨nd, rfl⟩⟩; refine ⟨_, rfl, ?_⟩) | (go_at_call 20; (with_reducible refine (impl_BitGet.calls _ _ t196 x14_3 false _ ?side1 ?side2 A62.out).mono ?_); (case side1 => repeat (first | exact (Kd.R_reads' HO_3.out).2.2 | (with_reducible refine Kd.C_alloc ?_ _) | (with_reducible refine Kd.C_drewN ?_ _) | (with_reducible refine Kd.C_drew ?_))); (case side2 => exact (Kd.R_reads' HO_3.out).2.1); rintro e w' ⟨rfl, ⟨nd, rfl⟩⟩))
                                  go_roundg k3
                                  case measure => have := HK1.out; have := HJ43.out; have := HK3.out; omega
                                  case rel => exact ⟨(wrap64 (x14_3 + 1)), (by first | rfl | (simp; done) | (simp [*]; done)), H', ⟨by have := HK1.out; have := HJ43.out; have := HK3.out; omega⟩, ⟨by (with_reducible repeat (first | apply Kd.R_alloc | apply Kd.R_drewN | apply Kd.R_drew)); exact HO_3.out⟩, ⟨by (with_reducible repeat (first | apply Kd.R_alloc | apply Kd.R_drewN | apply Kd.R_drew)); exact HO_6.out⟩, ⟨by (with_reducible repeat (first | refine blk_drewN ?_ _ | refine blk_drew ?_ | refine blk_alloc ?_ _)); exact BK219.out⟩, ⟨by repeat (first | (with_reducible first | exact HB.out | apply below_alloc | apply pw_below_drewN | apply below_drew1 | refine below_set ?_ GE219.out) | exact HB.out)⟩⟩
                            · rw [if_neg c59] at H
                              have c59b0 : decide (x14_3 < (wrap64 (((rd_T35 t207 x12_1).f0) + ((rd_T35 t207 x12_1).f1)))) = false := decide_eq_false c59
                              clear c59
                              have H' := Aside0.mk H
                              clear H
                              have hcz65_0 : wr.cell? ⟨gb219, 0, none⟩ = some (.int .i64 ((rd_T35 t207 x12_1).f0)) := (blk_cell BK219.out 0).trans rfl
                              have hcz65_1 : wr.cell? ⟨gb219, 1, none⟩ = some (.int .i64 ((rd_T35 t207 x12_1).f1)) := (blk_cell BK219.out 1).trans rfl
                              have hfz65_0 := blk_frozen BK219.out 0
                              have hfz65_1 := blk_frozen BK219.out 1
                              go_wp2
                              go_roundg k3
                              case measure => have := HK1.out; have := HJ43.out; have := HK3.out; omega
                              case rel => exact ⟨(wrap64 (x10_1 + ((rd_T35 t207 x12_1).f1))), (wrap64 (((rd_T35 t207 x12_1).f0) + ((rd_T35 t207 x12_1).f1))), (wrap64 (x12_1 + 1)), (by first | rfl | (simp; done) | (simp [*]; done)), (by first | rfl | (simp; done) | (simp [*]; done)), (by first | rfl | (simp; done) | (simp [*]; done)), H', ⟨by have := HK1.out; have := HJ43.out; have := HK3.out; omega⟩, ⟨by (with_reducible repeat (first | apply Kd.R_alloc | apply Kd.R_drewN | apply Kd.R_drew)); exact HO_3.out⟩, ⟨by (with_reducible repeat (first | apply Kd.R_alloc | apply Kd.R_drewN | apply Kd.R_drew)); exact Kd.R_mono HO_6.out (fun _ hk => trivial)⟩, ⟨by repeat (first | (with_reducible first | exact HB.out | apply below_alloc | apply pw_below_drewN | apply below_drew1 | refine below_set ?_ GE219.out) | exact HB.out)⟩⟩
                · rw [if_neg c43] at H
                  exact absurd H (by simp)
              · rw [if_neg c42] at H
                have c42b0 : decide (x12_1 < (t207.length : Int)) = false := decide_eq_false c42
                clear c42
                have HC66 := Aside0.mk H
                clear H
                obtain ⟨Ao67, co67, eo67⟩ := Kd.R_slice HO_6.out
                subst eo67
                go_upto_region 25 with (fail)
                go_cut [167] (fun v167 wc => ∃ (kq : Nat) (x167_65 : Bool), v167 = .bool x167_65 ∧ Aside0 (laws_FnBits.j3 kq t196 t216 x167_65 = some r) ∧ Aside0 (kq ≤ k1) ∧ Aside0 (Kd.R (Kd.int .u8) 5 wc w.heap.size (fun _ => True) (.slice Ao34 t196.length co34) t196) ∧ Aside0 (Below w.heap.size w wc))
                case first =>
                  have H := HC66.out
                  clear HC66
                  obtain ⟨y222, hy222⟩ : ∃ y_ : List Int, y_ = (([] : List Int)) := ⟨_, rfl⟩
                  replace H : (if y222.length + t196.length < 140737488355328 then ((impl_BitCount.f k1 (y222 ++ t196) t197 t198).bind fun t228 => (if (wrap64 (t228 + x10_1)) = (wrap64 (ji11 - ji9)) then (if (((t207.length : Int) == 0) != (t216 == (-1))) = true then (laws_FnBits.j3 k1 t196 t216 true) else (if (t207.length : Int) > 0 then (if 0 < (t207.length : Int) then (laws_FnBits.j3 k1 t196 t216 (((rd_T35 t207 0).f0) != t216)) else (none)) else (laws_FnBits.j3 k1 t196 t216 false))) else (laws_FnBits.j3 k1 t196 t216 true))) else (none)) = some r := by first | (rw [hy222]; with_reducible exact H) | (have H2_ := (Option.bind_some _ _).symm.trans H; rw [hy222]; with_reducible exact H2_) | (have H2_ := (Option.bind_some _ _).symm.trans H; with_reducible exact H2_) | with_reducible exact H | (rw [hy222]; exact H) | exact H
                  have Ny222 := Aside0.mk hy222
                  clear hy222
                  by_cases c68 : y222.length + t196.length < 140737488355328
                  · rw [if_pos c68] at H
                    have LMc68 := Aside0.mk c68
                    clear c68
                    obtain ⟨y225, hy225⟩ : ∃ y_ : List Int, y_ = (y222 ++ t196) := ⟨_, rfl⟩
                    replace H : ((impl_BitCount.f k1 y225 t197 t198).bind fun t228 => (if (wrap64 (t228 + x10_1)) = (wrap64 (ji11 - ji9)) then (if (((t207.length : Int) == 0) != (t216 == (-1))) = true then (laws_FnBits.j3 k1 t196 t216 true) else (if (t207.length : Int) > 0 then (if 0 < (t207.length : Int) then (laws_FnBits.j3 k1 t196 t216 (((rd_T35 t207 0).f0) != t216)) else (none)) else (laws_FnBits.j3 k1 t196 t216 false))) else (laws_FnBits.j3 k1 t196 t216 true))) = some r := by first | (rw [hy225]; with_reducible exact H) | (have H2_ := (Option.bind_some _ _).symm.trans H; rw [hy225]; with_reducible exact H2_) | (have H2_ := (Option.bind_some _ _).symm.trans H; with_reducible exact H2_) | with_reducible exact H | (rw [hy225]; exact H) | exact H
                    have Ny225 := Aside0.mk hy225
                    clear hy225
                    replace H := Option.bind_eq_some_iff.mp H
                    obtain ⟨t228, A690, H⟩ := H
                    replace H : (if (wrap64 (t228 + x10_1)) = (wrap64 (ji11 - ji9)) then (if (((t207.length : Int) == 0) != (t216 == (-1))) = true then (laws_FnBits.j3 k1 t196 t216 true) else (if (t207.length : Int) > 0 then (if 0 < (t207.length : Int) then (laws_FnBits.j3 k1 t196 t216 (((rd_T35 t207 0).f0) != t216)) else (none)) else (laws_FnBits.j3 k1 t196 t216 false))) else (laws_FnBits.j3 k1 t196 t216 true)) = some r := H
                    have A69 := Aside0.mk A690
                    clear A690
                    by_cases c70 : (wrap64 (t228 + x10_1)) = (wrap64 (ji11 - ji9))
                    · rw [if_pos c70] at H
                      have c70b0 : ((wrap64 (t228 + x10_1)) == (wrap64 (ji11 - ji9))) = true := beq_iff_eq.mpr c70
                      have c70b1 : ((wrap64 (t228 + x10_1)) != (wrap64 (ji11 - ji9))) = false := bne_eq_false_iff_eq.mpr c70
                      clear c70
                      (first | rw [c70b0] | (simp only [i64_w, i32_w]; rw [c70b0]) | skip)
                      by_cases c71 : (((t207.length : Int) == 0) != (t216 == (-1))) = true
                      · rw [if_pos c71] at H
                        have c71b0 : (((t207.length : Int) == 0) != (t216 == (-1))) = true := c71
                        (try (have c71b1 : decide (((t207.length : Int) == 0) = (t216 == (-1))) = false := by simpa using c71))
                        (try (have c71b2 : (((t207.length : Int) == 0) == (t216 == (-1))) = false := by simpa using c71))
                        (try (have c71b3 : ¬ (((t207.length : Int) == 0) = (t216 == (-1))) := by simpa using c71))
                        clear c71
                        have H' := Aside0.mk H
                        clear H
                        go_wp2_with (first | ((with_reducible refine gate_dst (N := 135) rfl ?_); (try (refine gate_guard (by rfl) ?_; dsimp only)); refine Kd.R_lit (Kd.int .u8) _ 5 ?hg (N := 135) ?hd (xs := ([] : List Int)) (inner := []) (ok := fun _ => True) (okp := fun _ => True) ?hr ?hp (fun _ hk => hk) trivial (Below.refl _ _) (Nat.le_refl _) (by simp) ?_; (case hd => rfl); (case hg => rfl); (case hr => first | (go_simp; done) | (go_simp; rfl)); (case hp => exact (Reps.none _ _)); intro v223 w72 ho73 hb hg_ hnew_; clear hg_ hnew_; (first | rw [← Ny222.out] at ho73 | (simp only [Int.reduceToNat] at ho73; rw [← Ny222.out] at ho73)); have n0_ := Aside0.mk (Kd.R_elder' (by (with_reducible repeat (first | apply Kd.R_alloc | apply Kd.R_drewN | apply Kd.R_drew)); exact HO_3.out) (Kd.R_base ho73) hb); have n1_ := Aside0.mk (Kd.R_below (by (with_reducible repeat (first | apply Kd.R_alloc | apply Kd.R_drewN | apply Kd.R_drew)); exact HO_6.out) hb); have n2_ := Aside0.mk (Kd.R_lower (Kd.R_new' ho73 (Kd.R_lt (by (with_reducible repeat (first | apply Kd.R_alloc | apply Kd.R_drewN | apply Kd.R_drew)); exact HO_3.out))) (below_size (by repeat (first | (with_reducible first | exact HB.out | apply below_alloc | apply pw_below_drewN | apply below_drew1) | exact HB.out)))); have n3_ := Aside0.mk (below_step (by repeat (first | (with_reducible first | exact HB.out | apply below_alloc | apply pw_below_drewN | apply below_drew1) | exact HB.out)) hb); clear HO_3; clear HO_6; clear HB; have HO_3 := n0_; have HO_6 := n1_; have HO224 := n2_; have HB := n3_; clear n0_ n1_ n2_ n3_; clear hb ho73) | ((with_reducible refine gate_builtin (b := .append) (xs := #[.tmp 135, .tmp 136]) rfl ?_); (try (refine gate_guard (by rfl) ?_; dsimp only)); at_builtin; refine Kd.R_append_rows (Kd.int .u8) (w0 := w) w.heap.size rfl (.tmp 135) (.tmp 136) 22 5 (.int .u8 0) 1 rfl Try.underlying22 info5 rfl (by decide) (by omega) v223 y222 t196 _ _ _ (fun k_ => some k_ ≠ (.slice Ao34 t196.length co34 : Value).ownBlock) (fun _ => False) rfl rfl ?aO ?aR (fun _ _ h => h) (fun _ h => h.elim) ?aF ?aB ?aS ?aL ?_; (case aR => repeat (first | exact (Kd.R_reads' HO_3.out).2.2 | (with_reducible refine Kd.C_alloc ?_ _) | (with_reducible refine Kd.C_drewN ?_ _) | (with_reducible refine Kd.C_drew ?_))); (case aB => exact (by repeat (first | (with_reducible first | exact HB.out | apply below_alloc | apply pw_below_drewN | apply below_drew1) | exact HB.out))); (case aF => exact (fun k_ hk => Kd.fresh' (Kd.R_lt (by (with_reducible repeat (first | apply Kd.R_alloc | apply Kd.R_drewN | apply Kd.R_drew)); exact HO_3.out)) k_ hk)); (case aO => exact (by (with_reducible repeat (first | apply Kd.R_alloc | apply Kd.R_drewN | apply Kd.R_drew)); exact Kd.R_mono HO224.out (fun _ hk => hk.2))); (case aS => exact (below_size (by repeat (first | (with_reducible first | exact HB.out | apply below_alloc | apply pw_below_drewN | apply below_drew1) | exact HB.out)))); (case aL => have := LMc68.out; omega); intro v226 w74 ho hb hg hat; rw [← Ny225.out] at ho; have n0_ := Aside0.mk (Kd.R_after (ok := (fun _ => True)) (by (with_reducible repeat (first | apply Kd.R_alloc | apply Kd.R_drewN | apply Kd.R_drew)); exact HO_3.out) hg hat); have n1_ := Aside0.mk (Kd.R_over' (by (with_reducible repeat (first | apply Kd.R_alloc | apply Kd.R_drewN | apply Kd.R_drew)); exact HO_6.out) (Kd.R_typed (by (with_reducible repeat (first | apply Kd.R_alloc | apply Kd.R_drewN | apply Kd.R_drew)); exact HO224.out)) (by decide) hg); have n2_ := Aside0.mk (hb); have n3_ := Aside0.mk (ho); clear HO_3; clear HO_6; clear HB; clear HO224; have HO_3 := n0_; have HO_6 := n1_; have HB := n2_; have HO227 := n3_; clear n0_ n1_ n2_ n3_; clear ho hb hg hat; obtain ⟨Ao75, co75, eo75⟩ := Kd.R_slice HO227.out; subst eo75) | ((with_reducible refine gate_callee (f := 18) rfl ?_); refine goesL_ (some 140) rfl rfl Try.func18 (by kernel_rfl) rfl #[.slice Ao75 y225.length co75, .int .i64 t197, .int .i64 t198] rfl (by (try simp only [List.map_toArray, List.map_cons, List.map_nil]); first | done | rfl | (simp only [List.length_drop, List.length_take]; rfl)) ?_; (with_reducible refine (impl_BitCount.calls k1 _ _ y225 t197 t198 t228 _ ?side1 ?side2 A69.out).mono ?_); (case side1 => repeat (first | exact (Kd.R_reads' HO227.out).2.2 | (with_reducible refine Kd.C_alloc ?_ _) | (with_reducible refine Kd.C_drewN ?_ _) | (with_reducible refine Kd.C_drew ?_))); (case side2 => exact (Kd.R_reads' HO227.out).2.1); rintro e w76 ⟨rfl, hb⟩; refine ⟨_, rfl, ?_⟩; have n0_ := Aside0.mk (Kd.R_below (by (with_reducible repeat (first | apply Kd.R_alloc | apply Kd.R_drewN | apply Kd.R_drew)); exact HO_3.out) hb); have n1_ := Aside0.mk (Kd.R_below (by (with_reducible repeat (first | apply Kd.R_alloc | apply Kd.R_drewN | apply Kd.R_drew)); exact HO_6.out) hb); have n2_ := Aside0.mk (Kd.R_below (by (with_reducible repeat (first | apply Kd.R_alloc | apply Kd.R_drewN | apply Kd.R_drew)); exact HO227.out) hb); have n3_ := Aside0.mk (below_step (by repeat (first | (with_reducible first | exact HB.out | apply below_alloc | apply pw_below_drewN | apply below_drew1) | exact HB.out)) hb); clear HO_3; clear HO_6; clear HO227; clear HB; have HO_3 := n0_; have HO_6 := n1_; have HO227 := n2_; have HB := n3_; clear n0_ n1_ n2_ n3_; (try clear hb); (try clear hb2); (try clear hk); (try clear hi)))
                        go_meet
                        case rel => exact ⟨_, (true), (by first | rfl | (simp; done) | (simp [*]; done)), H', ⟨by have := HK1.out; first | omega | exact Nat.le_refl _⟩, ⟨by (with_reducible repeat (first | apply Kd.R_alloc | apply Kd.R_drewN | apply Kd.R_drew)); exact Kd.R_mono HO_3.out (fun _ hk => trivial)⟩, ⟨by repeat (first | (with_reducible first | exact HB.out | apply below_alloc | apply pw_below_drewN | apply below_drew1) | exact HB.out)⟩⟩
                      · rw [if_neg c71] at H
                        have c71b0 : (((t207.length : Int) == 0) != (t216 == (-1))) = false := by simpa using c71
                        (try (have c71b1 : decide (((t207.length : Int) == 0) = (t216 == (-1))) = true := by simpa using c71))
                        (try (have c71b2 : (((t207.length : Int) == 0) == (t216 == (-1))) = true := by simpa using c71))
                        clear c71
                        by_cases c77 : (t207.length : Int) > 0
                        · rw [if_pos c77] at H
                          have c77b0 : decide (0 < (t207.length : Int)) = true := decide_eq_true c77
                          have c77b1 : decide (0 < t207.length) = true := decide_eq_true (by omega)
                          clear c77
                          by_cases c78 : 0 < (t207.length : Int)
                          · rw [if_pos c78] at H
                            have c78b0 : decide (0 < (t207.length : Int)) = true := decide_eq_true c78
                            have c78b1 : decide (0 < t207.length) = true := decide_eq_true (by omega)
                            clear c78
                            have H' := Aside0.mk H
                            clear H
                            go_wp2_with (first | ((with_reducible refine gate_dst (N := 135) rfl ?_); (try (refine gate_guard (by rfl) ?_; dsimp only)); refine Kd.R_lit (Kd.int .u8) _ 5 ?hg (N := 135) ?hd (xs := ([] : List Int)) (inner := []) (ok := fun _ => True) (okp := fun _ => True) ?hr ?hp (fun _ hk => hk) trivial (Below.refl _ _) (Nat.le_refl _) (by simp) ?_; (case hd => rfl); (case hg => rfl); (case hr => first | (go_simp; done) | (go_simp; rfl)); (case hp => exact (Reps.none _ _)); intro v223 w79 ho80 hb hg_ hnew_; clear hg_ hnew_; (first | rw [← Ny222.out] at ho80 | (simp only [Int.reduceToNat] at ho80; rw [← Ny222.out] at ho80)); have n0_ := Aside0.mk (Kd.R_elder' (by (with_reducible repeat (first | apply Kd.R_alloc | apply Kd.R_drewN | apply Kd.R_drew)); exact HO_3.out) (Kd.R_base ho80) hb); have n1_ := Aside0.mk (Kd.R_below (by (with_reducible repeat (first | apply Kd.R_alloc | apply Kd.R_drewN | apply Kd.R_drew)); exact HO_6.out) hb); have n2_ := Aside0.mk (Kd.R_lower (Kd.R_new' ho80 (Kd.R_lt (by (with_reducible repeat (first | apply Kd.R_alloc | apply Kd.R_drewN | apply Kd.R_drew)); exact HO_3.out))) (below_size (by repeat (first | (with_reducible first | exact HB.out | apply below_alloc | apply pw_below_drewN | apply below_drew1) | exact HB.out)))); have n3_ := Aside0.mk (below_step (by repeat (first | (with_reducible first | exact HB.out | apply below_alloc | apply pw_below_drewN | apply below_drew1) | exact HB.out)) hb); clear HO_3; clear HO_6; clear HB; have HO_3 := n0_; have HO_6 := n1_; have HO224 := n2_; have HB := n3_; clear n0_ n1_ n2_ n3_; clear hb ho80) | ((with_reducible refine gate_builtin (b := .append) (xs := #[.tmp 135, .tmp 136]) rfl ?_); (try (refine gate_guard (by rfl) ?_; dsimp only)); at_builtin; refine Kd.R_append_rows (Kd.int .u8) (w0 := w) w.heap.size rfl (.tmp 135) (.tmp 136) 22 5 (.int .u8 0) 1 rfl Try.underlying22 info5 rfl (by decide) (by omega) v223 y222 t196 _ _ _ (fun k_ => some k_ ≠ (.slice Ao34 t196.length co34 : Value).ownBlock) (fun _ => False) rfl rfl ?aO ?aR (fun _ _ h => h) (fun _ h => h.elim) ?aF ?aB ?aS ?aL ?_; (case aR => repeat (first | exact (Kd.R_reads' HO_3.out).2.2 | (with_reducible refine Kd.C_alloc ?_ _) | (with_reducible refine Kd.C_drewN ?_ _) | (with_reducible refine Kd.C_drew ?_))); (case aB => exact (by repeat (first | (with_reducible first | exact HB.out | apply below_alloc | apply pw_below_drewN | apply below_drew1) | exact HB.out))); (case aF => exact (fun k_ hk => Kd.fresh' (Kd.R_lt (by (with_reducible repeat (first | apply Kd.R_alloc | apply Kd.R_drewN | apply Kd.R_drew)); exact HO_3.out)) k_ hk)); (case aO => exact (by (with_reducible repeat (first | apply Kd.R_alloc | apply Kd.R_drewN | apply Kd.R_drew)); exact Kd.R_mono HO224.out (fun _ hk => hk.2))); (case aS => exact (below_size (by repeat (first | (with_reducible first | exact HB.out | apply below_alloc | apply pw_below_drewN | apply below_drew1) | exact HB.out)))); (case aL => have := LMc68.out; omega); intro v226 w81 ho hb hg hat; rw [← Ny225.out] at ho; have n0_ := Aside0.mk (Kd.R_after (ok := (fun _ => True)) (by (with_reducible repeat (first | apply Kd.R_alloc | apply Kd.R_drewN | apply Kd.R_drew)); exact HO_3.out) hg hat); have n1_ := Aside0.mk (Kd.R_over' (by (with_reducible repeat (first | apply Kd.R_alloc | apply Kd.R_drewN | apply Kd.R_drew)); exact HO_6.out) (Kd.R_typed (by (with_reducible repeat (first | apply Kd.R_alloc | apply Kd.R_drewN | apply Kd.R_drew)); exact HO224.out)) (by decide) hg); have n2_ := Aside0.mk (hb); have n3_ := Aside0.mk (ho); clear HO_3; clear HO_6; clear HB; clear HO224; have HO_3 := n0_; have HO_6 := n1_; have HB := n2_; have HO227 := n3_; clear n0_ n1_ n2_ n3_; clear ho hb hg hat; obtain ⟨Ao82, co82, eo82⟩ := Kd.R_slice HO227.out; subst eo82) | ((with_reducible refine gate_callee (f := 18) rfl ?_); refine goesL_ (some 140) rfl rfl Try.func18 (by kernel_rfl) rfl #[.slice Ao82 y225.length co82, .int .i64 t197, .int .i64 t198] rfl (by (try simp only [List.map_toArray, List.map_cons, List.map_nil]); first | done | rfl | (simp only [List.length_drop, List.length_take]; rfl)) ?_; (with_reducible refine (impl_BitCount.calls k1 _ _ y225 t197 t198 t228 _ ?side1 ?side2 A69.out).mono ?_); (case side1 => repeat (first | exact (Kd.R_reads' HO227.out).2.2 | (with_reducible refine Kd.C_alloc ?_ _) | (with_reducible refine Kd.C_drewN ?_ _) | (with_reducible refine Kd.C_drew ?_))); (case side2 => exact (Kd.R_reads' HO227.out).2.1); rintro e w83 ⟨rfl, hb⟩; refine ⟨_, rfl, ?_⟩; have n0_ := Aside0.mk (Kd.R_below (by (with_reducible repeat (first | apply Kd.R_alloc | apply Kd.R_drewN | apply Kd.R_drew)); exact HO_3.out) hb); have n1_ := Aside0.mk (Kd.R_below (by (with_reducible repeat (first | apply Kd.R_alloc | apply Kd.R_drewN | apply Kd.R_drew)); exact HO_6.out) hb); have n2_ := Aside0.mk (Kd.R_below (by (with_reducible repeat (first | apply Kd.R_alloc | apply Kd.R_drewN | apply Kd.R_drew)); exact HO227.out) hb); have n3_ := Aside0.mk (below_step (by repeat (first | (with_reducible first | exact HB.out | apply below_alloc | apply pw_below_drewN | apply below_drew1) | exact HB.out)) hb); clear HO_3; clear HO_6; clear HO227; clear HB; have HO_3 := n0_; have HO_6 := n1_; have HO227 := n2_; have HB := n3_; clear n0_ n1_ n2_ n3_; (try clear hb); (try clear hb2); (try clear hk); (try clear hi); have p229 : 0 ≤ (0 : Int) := (by omega); have q229 : 0 < (t207.length : Int) := of_decide_eq_true (by first | (with_reducible assumption) | assumption); obtain ⟨ad229, e229, hx229_0, hx229_1⟩ := at_T35 (Kd.R_reads' HO_6.out).2.2 0 p229 q229; cases e229; have qi229 : (0 < t207.length) = True := eq_true (by omega); (try rw [show ((0 : Int)).toNat = 0 from rfl] at hx229_0); (try rw [show 0 * 2 = 0 from rfl] at hx229_0); (try rw [Addr.add_zero'] at hx229_0); (try rw [show ((0 : Int)).toNat = 0 from rfl] at hx229_1); (try rw [show 0 * 2 = 0 from rfl] at hx229_1); (try rw [Addr.add_zero'] at hx229_1); replace p229 := eq_true p229; replace q229 := eq_true q229))
                            go_meet
                            case rel => exact ⟨_, ((((rd_T35 t207 0).f0) != t216)), (by first | rfl | (simp; done) | (simp [*]; done)), H', ⟨by have := HK1.out; first | omega | exact Nat.le_refl _⟩, ⟨by (with_reducible repeat (first | apply Kd.R_alloc | apply Kd.R_drewN | apply Kd.R_drew)); exact Kd.R_mono HO_3.out (fun _ hk => trivial)⟩, ⟨by repeat (first | (with_reducible first | exact HB.out | apply below_alloc | apply pw_below_drewN | apply below_drew1) | exact HB.out)⟩⟩
                          · rw [if_neg c78] at H
                            exact absurd H (by simp)
                        · rw [if_neg c77] at H
                          have c77b0 : decide (0 < (t207.length : Int)) = false := decide_eq_false c77
                          have c77b1 : decide (0 < t207.length) = false := decide_eq_false (by omega)
                          clear c77
                          have H' := Aside0.mk H
                          clear H
                          go_wp2_with (first | ((with_reducible refine gate_dst (N := 135) rfl ?_); (try (refine gate_guard (by rfl) ?_; dsimp only)); refine Kd.R_lit (Kd.int .u8) _ 5 ?hg (N := 135) ?hd (xs := ([] : List Int)) (inner := []) (ok := fun _ => True) (okp := fun _ => True) ?hr ?hp (fun _ hk => hk) trivial (Below.refl _ _) (Nat.le_refl _) (by simp) ?_; (case hd => rfl); (case hg => rfl); (case hr => first | (go_simp; done) | (go_simp; rfl)); (case hp => exact (Reps.none _ _)); intro v223 w84 ho85 hb hg_ hnew_; clear hg_ hnew_; (first | rw [← Ny222.out] at ho85 | (simp only [Int.reduceToNat] at ho85; rw [← Ny222.out] at ho85)); have n0_ := Aside0.mk (Kd.R_elder' (by (with_reducible repeat (first | apply Kd.R_alloc | apply Kd.R_drewN | apply Kd.R_drew)); exact HO_3.out) (Kd.R_base ho85) hb); have n1_ := Aside0.mk (Kd.R_below (by (with_reducible repeat (first | apply Kd.R_alloc | apply Kd.R_drewN | apply Kd.R_drew)); exact HO_6.out) hb); have n2_ := Aside0.mk (Kd.R_lower (Kd.R_new' ho85 (Kd.R_lt (by (with_reducible repeat (first | apply Kd.R_alloc | apply Kd.R_drewN | apply Kd.R_drew)); exact HO_3.out))) (below_size (by repeat (first | (with_reducible first | exact HB.out | apply below_alloc | apply pw_below_drewN | apply below_drew1) | exact HB.out)))); have n3_ := Aside0.mk (below_step (by repeat (first | (with_reducible first | exact HB.out | apply below_alloc | apply pw_below_drewN | apply below_drew1) | exact HB.out)) hb); clear HO_3; clear HO_6; clear HB; have HO_3 := n0_; have HO_6 := n1_; have HO224 := n2_; have HB := n3_; clear n0_ n1_ n2_ n3_; clear hb ho85) | ((with_reducible refine gate_builtin (b := .append) (xs := #[.tmp 135, .tmp 136]) rfl ?_); (try (refine gate_guard (by rfl) ?_; dsimp only)); at_builtin; refine Kd.R_append_rows (Kd.int .u8) (w0 := w) w.heap.size rfl (.tmp 135) (.tmp 136) 22 5 (.int .u8 0) 1 rfl Try.underlying22 info5 rfl (by decide) (by omega) v223 y222 t196 _ _ _ (fun k_ => some k_ ≠ (.slice Ao34 t196.length co34 : Value).ownBlock) (fun _ => False) rfl rfl ?aO ?aR (fun _ _ h => h) (fun _ h => h.elim) ?aF ?aB ?aS ?aL ?_; (case aR => repeat (first | exact (Kd.R_reads' HO_3.out).2.2 | (with_reducible refine Kd.C_alloc ?_ _) | (with_reducible refine Kd.C_drewN ?_ _) | (with_reducible refine Kd.C_drew ?_))); (case aB => exact (by repeat (first | (with_reducible first | exact HB.out | apply below_alloc | apply pw_below_drewN | apply below_drew1) | exact HB.out))); (case aF => exact (fun k_ hk => Kd.fresh' (Kd.R_lt (by (with_reducible repeat (first | apply Kd.R_alloc | apply Kd.R_drewN | apply Kd.R_drew)); exact HO_3.out)) k_ hk)); (case aO => exact (by (with_reducible repeat (first | apply Kd.R_alloc | apply Kd.R_drewN | apply Kd.R_drew)); exact Kd.R_mono HO224.out (fun _ hk => hk.2))); (case aS => exact (below_size (by repeat (first | (with_reducible first | exact HB.out | apply below_alloc | apply pw_below_drewN | apply below_drew1) | exact HB.out)))); (case aL => have := LMc68.out; omega); intro v226 w86 ho hb hg hat; rw [← Ny225.out] at ho; have n0_ := Aside0.mk (Kd.R_after (ok := (fun _ => True)) (by (with_reducible repeat (first | apply Kd.R_alloc | apply Kd.R_drewN | apply Kd.R_drew)); exact HO_3.out) hg hat); have n1_ := Aside0.mk (Kd.R_over' (by (with_reducible repeat (first | apply Kd.R_alloc | apply Kd.R_drewN | apply Kd.R_drew)); exact HO_6.out) (Kd.R_typed (by (with_reducible repeat (first | apply Kd.R_alloc | apply Kd.R_drewN | apply Kd.R_drew)); exact HO224.out)) (by decide) hg); have n2_ := Aside0.mk (hb); have n3_ := Aside0.mk (ho); clear HO_3; clear HO_6; clear HB; clear HO224; have HO_3 := n0_; have HO_6 := n1_; have HB := n2_; have HO227 := n3_; clear n0_ n1_ n2_ n3_; clear ho hb hg hat; obtain ⟨Ao87, co87, eo87⟩ := Kd.R_slice HO227.out; subst eo87) | ((with_reducible refine gate_callee (f := 18) rfl ?_); refine goesL_ (some 140) rfl rfl Try.func18 (by kernel_rfl) rfl #[.slice Ao87 y225.length co87, .int .i64 t197, .int .i64 t198] rfl (by (try simp only [List.map_toArray, List.map_cons, List.map_nil]); first | done | rfl | (simp only [List.length_drop, List.length_take]; rfl)) ?_; (with_reducible refine (impl_BitCount.calls k1 _ _ y225 t197 t198 t228 _ ?side1 ?side2 A69.out).mono ?_); (case side1 => repeat (first | exact (Kd.R_reads' HO227.out).2.2 | (with_reducible refine Kd.C_alloc ?_ _) | (with_reducible refine Kd.C_drewN ?_ _) | (with_reducible refine Kd.C_drew ?_))); (case side2 => exact (Kd.R_reads' HO227.out).2.1); rintro e w88 ⟨rfl, hb⟩; refine ⟨_, rfl, ?_⟩; have n0_ := Aside0.mk (Kd.R_below (by (with_reducible repeat (first | apply Kd.R_alloc | apply Kd.R_drewN | apply Kd.R_drew)); exact HO_3.out) hb); have n1_ := Aside0.mk (Kd.R_below (by (with_reducible repeat (first | apply Kd.R_alloc | apply Kd.R_drewN | apply Kd.R_drew)); exact HO_6.out) hb); have n2_ := Aside0.mk (Kd.R_below (by (with_reducible repeat (first | apply Kd.R_alloc | apply Kd.R_drewN | apply Kd.R_drew)); exact HO227.out) hb); have n3_ := Aside0.mk (below_step (by repeat (first | (with_reducible first | exact HB.out | apply below_alloc | apply pw_below_drewN | apply below_drew1) | exact HB.out)) hb); clear HO_3; clear HO_6; clear HO227; clear HB; have HO_3 := n0_; have HO_6 := n1_; have HO227 := n2_; have HB := n3_; clear n0_ n1_ n2_ n3_; (try clear hb); (try clear hb2); (try clear hk); (try clear hi)))
                          go_meet
                          case rel => exact ⟨_, (false), (by first | rfl | (simp; done) | (simp [*]; done)), H', ⟨by have := HK1.out; first | omega | exact Nat.le_refl _⟩, ⟨by (with_reducible repeat (first | apply Kd.R_alloc | apply Kd.R_drewN | apply Kd.R_drew)); exact Kd.R_mono HO_3.out (fun _ hk => trivial)⟩, ⟨by repeat (first | (with_reducible first | exact HB.out | apply below_alloc | apply pw_below_drewN | apply below_drew1) | exact HB.out)⟩⟩
                    · rw [if_neg c70] at H
                      have c70b0 : ((wrap64 (t228 + x10_1)) == (wrap64 (ji11 - ji9))) = false := beq_eq_false_iff_ne.mpr c70
                      have c70b1 : ((wrap64 (t228 + x10_1)) != (wrap64 (ji11 - ji9))) = true := bne_iff_ne.mpr c70
                      (first | rw [c70b0] | (simp only [i64_w, i32_w]; rw [c70b0]) | skip)
                      have H' := Aside0.mk H
                      clear H
                      go_wp2_with (first | ((with_reducible refine gate_dst (N := 135) rfl ?_); (try (refine gate_guard (by rfl) ?_; dsimp only)); refine Kd.R_lit (Kd.int .u8) _ 5 ?hg (N := 135) ?hd (xs := ([] : List Int)) (inner := []) (ok := fun _ => True) (okp := fun _ => True) ?hr ?hp (fun _ hk => hk) trivial (Below.refl _ _) (Nat.le_refl _) (by simp) ?_; (case hd => rfl); (case hg => rfl); (case hr => first | (go_simp; done) | (go_simp; rfl)); (case hp => exact (Reps.none _ _)); intro v223 w89 ho90 hb hg_ hnew_; clear hg_ hnew_; (first | rw [← Ny222.out] at ho90 | (simp only [Int.reduceToNat] at ho90; rw [← Ny222.out] at ho90)); have n0_ := Aside0.mk (Kd.R_elder' (by (with_reducible repeat (first | apply Kd.R_alloc | apply Kd.R_drewN | apply Kd.R_drew)); exact HO_3.out) (Kd.R_base ho90) hb); have n1_ := Aside0.mk (Kd.R_below (by (with_reducible repeat (first | apply Kd.R_alloc | apply Kd.R_drewN | apply Kd.R_drew)); exact HO_6.out) hb); have n2_ := Aside0.mk (Kd.R_lower (Kd.R_new' ho90 (Kd.R_lt (by (with_reducible repeat (first | apply Kd.R_alloc | apply Kd.R_drewN | apply Kd.R_drew)); exact HO_3.out))) (below_size (by repeat (first | (with_reducible first | exact HB.out | apply below_alloc | apply pw_below_drewN | apply below_drew1) | exact HB.out)))); have n3_ := Aside0.mk (below_step (by repeat (first | (with_reducible first | exact HB.out | apply below_alloc | apply pw_below_drewN | apply below_drew1) | exact HB.out)) hb); clear HO_3; clear HO_6; clear HB; have HO_3 := n0_; have HO_6 := n1_; have HO224 := n2_; have HB := n3_; clear n0_ n1_ n2_ n3_; clear hb ho90) | ((with_reducible refine gate_builtin (b := .append) (xs := #[.tmp 135, .tmp 136]) rfl ?_); (try (refine gate_guard (by rfl) ?_; dsimp only)); at_builtin; refine Kd.R_append_rows (Kd.int .u8) (w0 := w) w.heap.size rfl (.tmp 135) (.tmp 136) 22 5 (.int .u8 0) 1 rfl Try.underlying22 info5 rfl (by decide) (by omega) v223 y222 t196 _ _ _ (fun k_ => some k_ ≠ (.slice Ao34 t196.length co34 : Value).ownBlock) (fun _ => False) rfl rfl ?aO ?aR (fun _ _ h => h) (fun _ h => h.elim) ?aF ?aB ?aS ?aL ?_; (case aR => repeat (first | exact (Kd.R_reads' HO_3.out).2.2 | (with_reducible refine Kd.C_alloc ?_ _) | (with_reducible refine Kd.C_drewN ?_ _) | (with_reducible refine Kd.C_drew ?_))); (case aB => exact (by repeat (first | (with_reducible first | exact HB.out | apply below_alloc | apply pw_below_drewN | apply below_drew1) | exact HB.out))); (case aF => exact (fun k_ hk => Kd.fresh' (Kd.R_lt (by (with_reducible repeat (first | apply Kd.R_alloc | apply Kd.R_drewN | apply Kd.R_drew)); exact HO_3.out)) k_ hk)); (case aO => exact (by (with_reducible repeat (first | apply Kd.R_alloc | apply Kd.R_drewN | apply Kd.R_drew)); exact Kd.R_mono HO224.out (fun _ hk => hk.2))); (case aS => exact (below_size (by repeat (first | (with_reducible first | exact HB.out | apply below_alloc | apply pw_below_drewN | apply below_drew1) | exact HB.out)))); (case aL => have := LMc68.out; omega); intro v226 w91 ho hb hg hat; rw [← Ny225.out] at ho; have n0_ := Aside0.mk (Kd.R_after (ok := (fun _ => True)) (by (with_reducible repeat (first | apply Kd.R_alloc | apply Kd.R_drewN | apply Kd.R_drew)); exact HO_3.out) hg hat); have n1_ := Aside0.mk (Kd.R_over' (by (with_reducible repeat (first | apply Kd.R_alloc | apply Kd.R_drewN | apply Kd.R_drew)); exact HO_6.out) (Kd.R_typed (by (with_reducible repeat (first | apply Kd.R_alloc | apply Kd.R_drewN | apply Kd.R_drew)); exact HO224.out)) (by decide) hg); have n2_ := Aside0.mk (hb); have n3_ := Aside0.mk (ho); clear HO_3; clear HO_6; clear HB; clear HO224; have HO_3 := n0_; have HO_6 := n1_; have HB := n2_; have HO227 := n3_; clear n0_ n1_ n2_ n3_; clear ho hb hg hat; obtain ⟨Ao92, co92, eo92⟩ := Kd.R_slice HO227.out; subst eo92) | ((with_reducible refine gate_callee (f := 18) rfl ?_); refine goesL_ (some 140) rfl rfl Try.func18 (by kernel_rfl) rfl #[.slice Ao92 y225.length co92, .int .i64 t197, .int .i64 t198] rfl (by (try simp only [List.map_toArray, List.map_cons, List.map_nil]); first | done | rfl | (simp only [List.length_drop, List.length_take]; rfl)) ?_; (with_reducible refine (impl_BitCount.calls k1 _ _ y225 t197 t198 t228 _ ?side1 ?side2 A69.out).mono ?_); (case side1 => repeat (first | exact (Kd.R_reads' HO227.out).2.2 | (with_reducible refine Kd.C_alloc ?_ _) | (with_reducible refine Kd.C_drewN ?_ _) | (with_reducible refine Kd.C_drew ?_))); (case side2 => exact (Kd.R_reads' HO227.out).2.1); rintro e w93 ⟨rfl, hb⟩; refine ⟨_, rfl, ?_⟩; have n0_ := Aside0.mk (Kd.R_below (by (with_reducible repeat (first | apply Kd.R_alloc | apply Kd.R_drewN | apply Kd.R_drew)); exact HO_3.out) hb); have n1_ := Aside0.mk (Kd.R_below (by (with_reducible repeat (first | apply Kd.R_alloc | apply Kd.R_drewN | apply Kd.R_drew)); exact HO_6.out) hb); have n2_ := Aside0.mk (Kd.R_below (by (with_reducible repeat (first | apply Kd.R_alloc | apply Kd.R_drewN | apply Kd.R_drew)); exact HO227.out) hb); have n3_ := Aside0.mk (below_step (by repeat (first | (with_reducible first | exact HB.out | apply below_alloc | apply pw_below_drewN | apply below_drew1) | exact HB.out)) hb); clear HO_3; clear HO_6; clear HO227; clear HB; have HO_3 := n0_; have HO_6 := n1_; have HO227 := n2_; have HB := n3_; clear n0_ n1_ n2_ n3_; (try clear hb); (try clear hb2); (try clear hk); (try clear hi)))
                      go_meet
                      case rel => exact ⟨_, (true), (by first | rfl | (simp; done) | (simp [*]; done)), H', ⟨by have := HK1.out; first | omega | exact Nat.le_refl _⟩, ⟨by (with_reducible repeat (first | apply Kd.R_alloc | apply Kd.R_drewN | apply Kd.R_drew)); exact Kd.R_mono HO_3.out (fun _ hk => trivial)⟩, ⟨by repeat (first | (with_reducible first | exact HB.out | apply below_alloc | apply pw_below_drewN | apply below_drew1) | exact HB.out)⟩⟩
                  · rw [if_neg c68] at H
                    exact absurd H (by simp)
                case rest =>
                  clear HC66
                  try clear c1
                  try clear c2
                  try clear c2b0
                  try clear c2b1
                  try clear p2
                  try clear q2
                  try clear hx2
                  try clear qi2
                  try clear c4
                  try clear c5
                  try clear c6
                  try clear p6
                  try clear c7
                  try clear c10
                  try clear c12
                  try clear c12b0
                  try clear c12b1
                  try clear c13
                  try clear c13b0
                  try clear c13b1
                  try clear c13b2
                  try clear c14
                  try clear c14b0
                  try clear c14b1
                  try clear c16
                  try clear c17
                  try clear c18
                  try clear c19
                  try clear p21
                  try clear q21
                  try clear hx21
                  try clear p22
                  try clear q22
                  try clear hx22
                  try clear qi22
                  try clear c42
                  try clear c42b0
                  try clear c43
                  try clear c43b0
                  try clear c48
                  try clear c48b0
                  try clear c50
                  try clear c50b0
                  try clear c52
                  try clear c52b0
                  try clear c54
                  try clear c54b0
                  try clear c57
                  try clear c59
                  try clear c59b0
                  try clear c61
                  try clear c63
                  try clear p64
                  try clear c68
                  try clear c70
                  try clear c70b0
                  try clear c70b1
                  try clear c71
                  try clear c71b0
                  try clear c71b1
                  try clear c71b2
                  try clear c77
                  try clear c77b0
                  try clear c77b1
                  try clear c78
                  try clear c78b0
                  try clear c78b1
                  try clear hcz47_0
                  try clear hcz47_1
                  try clear hcz49_0
                  try clear hcz49_1
                  try clear hcz51_0
                  try clear hcz51_1
                  try clear hcz53_0
                  try clear hcz53_1
                  try clear hcz55_0
                  try clear hcz55_1
                  try clear hcz56_0
                  try clear hcz56_1
                  try clear hcz58_0
                  try clear hcz58_1
                  try clear hcz64_0
                  try clear hcz64_1
                  try clear hcz65_0
                  try clear hcz65_1
                  try clear hfz47_0
                  try clear hfz47_1
                  try clear hfz49_0
                  try clear hfz49_1
                  try clear hfz51_0
                  try clear hfz51_1
                  try clear hfz53_0
                  try clear hfz53_1
                  try clear hfz55_0
                  try clear hfz55_1
                  try clear hfz56_0
                  try clear hfz56_1
                  try clear hfz58_0
                  try clear hfz58_1
                  try clear hfz64_0
                  try clear hfz64_1
                  try clear hfz65_0
                  try clear hfz65_1
                  try clear hx218_0
                  try clear hx218_1
                  try clear hx229_0
                  try clear hx229_1
                  try clear p2
                  try clear p21
                  try clear p218
                  try clear p229
                  try clear p6
                  try clear q2
                  try clear q21
                  try clear q218
                  try clear q229
                  obtain ⟨kq, x167_65, rfl, HA, HJ65, HO_3, HB⟩ := hcut
                  cases kq with
                  | zero => exact absurd HA.out (by simp [laws_FnBits.j3])
                  | succ kj65 =>
                    have H := HA.out
                    clear HA
                    simp only [laws_FnBits.j3] at H
                    by_cases c94 : x167_65 = true
                    · subst c94
                      have H1 : (some false) = some r := by rw [if_pos rfl] at H; exact H
                      clear H
                      have H := H1
                      clear H1
                      exact absurd ((Option.some.inj H).trans hrt.out) (by simp)
                    · replace c94 := Bool.eq_false_iff.mpr c94
                      subst c94
                      have H1 : (if t216 < 0 then (some true) else ((some (([] : List Int) : List Int)).bind fun y230 => (if y230.length + t196.length < 140737488355328 then ((impl_BitPut.f kj65 (y230 ++ t196) t216 true).bind fun t236 => ((some (([] : List Int) : List Int)).bind fun y239 => (if y239.length + t236.length < 140737488355328 then ((impl_BitPut.f kj65 (y239 ++ t236) t216 false).bind fun t245 => (if (t236.length : Int) = (t196.length : Int) then ((impl_BitGet.f t236 t216).bind fun t248 => (if t248 = true then ((laws_lwSameBytes.f t245 t196).bind fun t249 => (if t249 = true then ((impl_BitCount.f kj65 t236 0 (wrap64 (8 * (t196.length : Int)))).bind fun t250 => ((spec_BitCount.f kj65 t196 0 (wrap64 (8 * (t196.length : Int)))).bind fun t251 => (some (t250 == (wrap64 (t251 + 1)))))) else (some false))) else (some false))) else (some false))) else (none)))) else (none)))) = some r := by rw [if_neg (show ¬ (false = true) by decide)] at H; exact H
                      clear H
                      have H := H1
                      clear H1
                      by_cases c95 : t216 < 0
                      · rw [if_pos c95] at H
                        have c95b0 : decide (t216 < 0) = true := decide_eq_true c95
                        clear c95
                        obtain rfl := Option.some.inj H
                        go_wp2
                        go_ret
                        exact ⟨by first | rfl | (simp [errW_none, errW_some] <;> rfl) | (simp only [← hji8, ← hji9, ← hji10, ← hji11]; first | rfl | (simp [errW_none, errW_some] <;> rfl)) | (simp [*, errW_none, errW_some] <;> rfl), by repeat (first | (with_reducible first | exact HB.out | apply below_alloc | apply pw_below_drewN | apply below_drew1) | exact HB.out)⟩
                      · rw [if_neg c95] at H
                        have c95b0 : decide (t216 < 0) = false := decide_eq_false c95
                        clear c95
                        obtain ⟨y230, hy230⟩ : ∃ y_ : List Int, y_ = (([] : List Int)) := ⟨_, rfl⟩
                        replace H : (if y230.length + t196.length < 140737488355328 then ((impl_BitPut.f kj65 (y230 ++ t196) t216 true).bind fun t236 => ((some (([] : List Int) : List Int)).bind fun y239 => (if y239.length + t236.length < 140737488355328 then ((impl_BitPut.f kj65 (y239 ++ t236) t216 false).bind fun t245 => (if (t236.length : Int) = (t196.length : Int) then ((impl_BitGet.f t236 t216).bind fun t248 => (if t248 = true then ((laws_lwSameBytes.f t245 t196).bind fun t249 => (if t249 = true then ((impl_BitCount.f kj65 t236 0 (wrap64 (8 * (t196.length : Int)))).bind fun t250 => ((spec_BitCount.f kj65 t196 0 (wrap64 (8 * (t196.length : Int)))).bind fun t251 => (some (t250 == (wrap64 (t251 + 1)))))) else (some false))) else (some false))) else (some false))) else (none)))) else (none)) = some r := by first | (rw [hy230]; with_reducible exact H) | (have H2_ := (Option.bind_some _ _).symm.trans H; rw [hy230]; with_reducible exact H2_) | (have H2_ := (Option.bind_some _ _).symm.trans H; with_reducible exact H2_) | with_reducible exact H | (rw [hy230]; exact H) | exact H
                        have Ny230 := Aside0.mk hy230
                        clear hy230
                        by_cases c96 : y230.length + t196.length < 140737488355328
                        · rw [if_pos c96] at H
                          have LMc96 := Aside0.mk c96
                          clear c96
                          obtain ⟨y233, hy233⟩ : ∃ y_ : List Int, y_ = (y230 ++ t196) := ⟨_, rfl⟩
                          replace H : ((impl_BitPut.f kj65 y233 t216 true).bind fun t236 => ((some (([] : List Int) : List Int)).bind fun y239 => (if y239.length + t236.length < 140737488355328 then ((impl_BitPut.f kj65 (y239 ++ t236) t216 false).bind fun t245 => (if (t236.length : Int) = (t196.length : Int) then ((impl_BitGet.f t236 t216).bind fun t248 => (if t248 = true then ((laws_lwSameBytes.f t245 t196).bind fun t249 => (if t249 = true then ((impl_BitCount.f kj65 t236 0 (wrap64 (8 * (t196.length : Int)))).bind fun t250 => ((spec_BitCount.f kj65 t196 0 (wrap64 (8 * (t196.length : Int)))).bind fun t251 => (some (t250 == (wrap64 (t251 + 1)))))) else (some false))) else (some false))) else (some false))) else (none)))) = some r := by first | (rw [hy233]; with_reducible exact H) | (have H2_ := (Option.bind_some _ _).symm.trans H; rw [hy233]; with_reducible exact H2_) | (have H2_ := (Option.bind_some _ _).symm.trans H; with_reducible exact H2_) | with_reducible exact H | (rw [hy233]; exact H) | exact H
                          have Ny233 := Aside0.mk hy233
                          clear hy233
                          replace H := Option.bind_eq_some_iff.mp H
                          obtain ⟨t236, A970, H⟩ := H
                          replace H : ((some (([] : List Int) : List Int)).bind fun y239 => (if y239.length + t236.length < 140737488355328 then ((impl_BitPut.f kj65 (y239 ++ t236) t216 false).bind fun t245 => (if (t236.length : Int) = (t196.length : Int) then ((impl_BitGet.f t236 t216).bind fun t248 => (if t248 = true then ((laws_lwSameBytes.f t245 t196).bind fun t249 => (if t249 = true then ((impl_BitCount.f kj65 t236 0 (wrap64 (8 * (t196.length : Int)))).bind fun t250 => ((spec_BitCount.f kj65 t196 0 (wrap64 (8 * (t196.length : Int)))).bind fun t251 => (some (t250 == (wrap64 (t251 + 1)))))) else (some false))) else (some false))) else (some false))) else (none))) = some r := H
                          have A97 := Aside0.mk A970
                          clear A970
                          obtain ⟨y239, hy239⟩ : ∃ y_ : List Int, y_ = (([] : List Int)) := ⟨_, rfl⟩
                          replace H : (if y239.length + t236.length < 140737488355328 then ((impl_BitPut.f kj65 (y239 ++ t236) t216 false).bind fun t245 => (if (t236.length : Int) = (t196.length : Int) then ((impl_BitGet.f t236 t216).bind fun t248 => (if t248 = true then ((laws_lwSameBytes.f t245 t196).bind fun t249 => (if t249 = true then ((impl_BitCount.f kj65 t236 0 (wrap64 (8 * (t196.length : Int)))).bind fun t250 => ((spec_BitCount.f kj65 t196 0 (wrap64 (8 * (t196.length : Int)))).bind fun t251 => (some (t250 == (wrap64 (t251 + 1)))))) else (some false))) else (some false))) else (some false))) else (none)) = some r := by first | (rw [hy239]; with_reducible exact H) | (have H2_ := (Option.bind_some _ _).symm.trans H; rw [hy239]; with_reducible exact H2_) | (have H2_ := (Option.bind_some _ _).symm.trans H; with_reducible exact H2_) | with_reducible exact H | (rw [hy239]; exact H) | exact H
                          have Ny239 := Aside0.mk hy239
                          clear hy239
                          by_cases c98 : y239.length + t236.length < 140737488355328
                          · rw [if_pos c98] at H
                            have LMc98 := Aside0.mk c98
                            clear c98
                            obtain ⟨y242, hy242⟩ : ∃ y_ : List Int, y_ = (y239 ++ t236) := ⟨_, rfl⟩
                            replace H : ((impl_BitPut.f kj65 y242 t216 false).bind fun t245 => (if (t236.length : Int) = (t196.length : Int) then ((impl_BitGet.f t236 t216).bind fun t248 => (if t248 = true then ((laws_lwSameBytes.f t245 t196).bind fun t249 => (if t249 = true then ((impl_BitCount.f kj65 t236 0 (wrap64 (8 * (t196.length : Int)))).bind fun t250 => ((spec_BitCount.f kj65 t196 0 (wrap64 (8 * (t196.length : Int)))).bind fun t251 => (some (t250 == (wrap64 (t251 + 1)))))) else (some false))) else (some false))) else (some false))) = some r := by first | (rw [hy242]; with_reducible exact H) | (have H2_ := (Option.bind_some _ _).symm.trans H; rw [hy242]; with_reducible exact H2_) | (have H2_ := (Option.bind_some _ _).symm.trans H; with_reducible exact H2_) | with_reducible exact H | (rw [hy242]; exact H) | exact H
                            have Ny242 := Aside0.mk hy242
                            clear hy242
                            replace H := Option.bind_eq_some_iff.mp H
                            obtain ⟨t245, A990, H⟩ := H
                            replace H : (if (t236.length : Int) = (t196.length : Int) then ((impl_BitGet.f t236 t216).bind fun t248 => (if t248 = true then ((laws_lwSameBytes.f t245 t196).bind fun t249 => (if t249 = true then ((impl_BitCount.f kj65 t236 0 (wrap64 (8 * (t196.length : Int)))).bind fun t250 => ((spec_BitCount.f kj65 t196 0 (wrap64 (8 * (t196.length : Int)))).bind fun t251 => (some (t250 == (wrap64 (t251 + 1)))))) else (some false))) else (some false))) else (some false)) = some r := H
                            have A99 := Aside0.mk A990
                            clear A990
                            by_cases c100 : (t236.length : Int) = (t196.length : Int)
                            · rw [if_pos c100] at H
                              have c100b0 : ((t236.length : Int) == (t196.length : Int)) = true := beq_iff_eq.mpr c100
                              have c100b1 : ((t236.length : Int) != (t196.length : Int)) = false := bne_eq_false_iff_eq.mpr c100
                              have c100b2 : (t236.length == t196.length) = true := by first | simpa using c100 | (simp at c100 ⊢; omega)
                              clear c100
                              replace H := Option.bind_eq_some_iff.mp H
                              obtain ⟨t248, A1010, H⟩ := H
                              replace H : (if t248 = true then ((laws_lwSameBytes.f t245 t196).bind fun t249 => (if t249 = true then ((impl_BitCount.f kj65 t236 0 (wrap64 (8 * (t196.length : Int)))).bind fun t250 => ((spec_BitCount.f kj65 t196 0 (wrap64 (8 * (t196.length : Int)))).bind fun t251 => (some (t250 == (wrap64 (t251 + 1)))))) else (some false))) else (some false)) = some r := H
                              have A101 := Aside0.mk A1010
                              clear A1010
                              by_cases c102 : t248 = true
                              · subst c102
                                have H1 : ((laws_lwSameBytes.f t245 t196).bind fun t249 => (if t249 = true then ((impl_BitCount.f kj65 t236 0 (wrap64 (8 * (t196.length : Int)))).bind fun t250 => ((spec_BitCount.f kj65 t196 0 (wrap64 (8 * (t196.length : Int)))).bind fun t251 => (some (t250 == (wrap64 (t251 + 1)))))) else (some false))) = some r := by rw [if_pos rfl] at H; exact H
                                clear H
                                have H := H1
                                clear H1
                                replace H := Option.bind_eq_some_iff.mp H
                                obtain ⟨t249, A1030, H⟩ := H
                                replace H : (if t249 = true then ((impl_BitCount.f kj65 t236 0 (wrap64 (8 * (t196.length : Int)))).bind fun t250 => ((spec_BitCount.f kj65 t196 0 (wrap64 (8 * (t196.length : Int)))).bind fun t251 => (some (t250 == (wrap64 (t251 + 1)))))) else (some false)) = some r := H
                                have A103 := Aside0.mk A1030
                                clear A1030
                                by_cases c104 : t249 = true
                                · subst c104
                                  have H1 : ((impl_BitCount.f kj65 t236 0 (wrap64 (8 * (t196.length : Int)))).bind fun t250 => ((spec_BitCount.f kj65 t196 0 (wrap64 (8 * (t196.length : Int)))).bind fun t251 => (some (t250 == (wrap64 (t251 + 1)))))) = some r := by rw [if_pos rfl] at H; exact H
                                  clear H
                                  have H := H1
                                  clear H1
                                  replace H := Option.bind_eq_some_iff.mp H
                                  obtain ⟨t250, A1050, H⟩ := H
                                  replace H : ((spec_BitCount.f kj65 t196 0 (wrap64 (8 * (t196.length : Int)))).bind fun t251 => (some (t250 == (wrap64 (t251 + 1))))) = some r := H
                                  have A105 := Aside0.mk A1050
                                  clear A1050
                                  replace H := Option.bind_eq_some_iff.mp H
                                  obtain ⟨t251, A1060, H⟩ := H
                                  replace H : (some (t250 == (wrap64 (t251 + 1)))) = some r := H
                                  have A106 := Aside0.mk A1060
                                  clear A1060
                                  obtain rfl := Option.some.inj H
                                  go_wp2_with (first | ((with_reducible refine gate_dst (N := 170) rfl ?_); (try (refine gate_guard (by rfl) ?_; dsimp only)); refine Kd.R_lit (Kd.int .u8) _ 5 ?hg (N := 170) ?hd (xs := ([] : List Int)) (inner := []) (ok := fun _ => True) (okp := fun _ => True) ?hr ?hp (fun _ hk => hk) trivial (Below.refl _ _) (Nat.le_refl _) (by simp) ?_; (case hd => rfl); (case hg => rfl); (case hr => first | (go_simp; done) | (go_simp; rfl)); (case hp => exact (Reps.none _ _)); intro v231 w107 ho108 hb hg_ hnew_; clear hg_ hnew_; (first | rw [← Ny230.out] at ho108 | (simp only [Int.reduceToNat] at ho108; rw [← Ny230.out] at ho108)); have n0_ := Aside0.mk (Kd.R_elder' (by (with_reducible repeat (first | apply Kd.R_alloc | apply Kd.R_drewN | apply Kd.R_drew)); exact HO_3.out) (Kd.R_base ho108) hb); have n1_ := Aside0.mk (Kd.R_lower (Kd.R_new' ho108 (Kd.R_lt (by (with_reducible repeat (first | apply Kd.R_alloc | apply Kd.R_drewN | apply Kd.R_drew)); exact HO_3.out))) (below_size (by repeat (first | (with_reducible first | exact HB.out | apply below_alloc | apply pw_below_drewN | apply below_drew1) | exact HB.out)))); have n2_ := Aside0.mk (below_step (by repeat (first | (with_reducible first | exact HB.out | apply below_alloc | apply pw_below_drewN | apply below_drew1) | exact HB.out)) hb); clear HO_3; clear HB; have HO_3 := n0_; have HO232 := n1_; have HB := n2_; clear n0_ n1_ n2_; clear hb ho108) | ((with_reducible refine gate_builtin (b := .append) (xs := #[.tmp 170, .tmp 171]) rfl ?_); (try (refine gate_guard (by rfl) ?_; dsimp only)); at_builtin; refine Kd.R_append_rows (Kd.int .u8) (w0 := w) w.heap.size rfl (.tmp 170) (.tmp 171) 22 5 (.int .u8 0) 1 rfl Try.underlying22 info5 rfl (by decide) (by omega) v231 y230 t196 _ _ _ (fun k_ => some k_ ≠ (.slice Ao34 t196.length co34 : Value).ownBlock) (fun _ => False) rfl rfl ?aO ?aR (fun _ _ h => h) (fun _ h => h.elim) ?aF ?aB ?aS ?aL ?_; (case aR => repeat (first | exact (Kd.R_reads' HO_3.out).2.2 | (with_reducible refine Kd.C_alloc ?_ _) | (with_reducible refine Kd.C_drewN ?_ _) | (with_reducible refine Kd.C_drew ?_))); (case aB => exact (by repeat (first | (with_reducible first | exact HB.out | apply below_alloc | apply pw_below_drewN | apply below_drew1) | exact HB.out))); (case aF => exact (fun k_ hk => Kd.fresh' (Kd.R_lt (by (with_reducible repeat (first | apply Kd.R_alloc | apply Kd.R_drewN | apply Kd.R_drew)); exact HO_3.out)) k_ hk)); (case aO => exact (by (with_reducible repeat (first | apply Kd.R_alloc | apply Kd.R_drewN | apply Kd.R_drew)); exact Kd.R_mono HO232.out (fun _ hk => hk.2))); (case aS => exact (below_size (by repeat (first | (with_reducible first | exact HB.out | apply below_alloc | apply pw_below_drewN | apply below_drew1) | exact HB.out)))); (case aL => have := LMc96.out; omega); intro v234 w109 ho hb hg hat; rw [← Ny233.out] at ho; have n0_ := Aside0.mk (Kd.R_after (ok := (fun _ => True)) (by (with_reducible repeat (first | apply Kd.R_alloc | apply Kd.R_drewN | apply Kd.R_drew)); exact HO_3.out) hg hat); have n1_ := Aside0.mk (hb); have n2_ := Aside0.mk (ho); clear HO_3; clear HB; clear HO232; have HO_3 := n0_; have HB := n1_; have HO235 := n2_; clear n0_ n1_ n2_; clear ho hb hg hat; obtain ⟨Ao110, co110, eo110⟩ := Kd.R_slice HO235.out; subst eo110) | ((with_reducible refine gate_callee (f := 21) rfl ?_); refine goesL_ (some 174) rfl rfl Try.func21 (by kernel_rfl) rfl #[.slice Ao110 y233.length co110, .int .i64 t216, .bool true] rfl (by (try simp only [List.map_toArray, List.map_cons, List.map_nil]); first | done | rfl | (simp only [List.length_drop, List.length_take]; rfl)) ?_; (with_reducible refine (impl_BitPut.calls kj65 _ _ y233 t216 true t236 _ ?side1 ?side2 A97.out).mono ?_); (case side1 => repeat (first | exact (Kd.R_reads' HO235.out).2.2 | (with_reducible refine Kd.C_alloc ?_ _) | (with_reducible refine Kd.C_drewN ?_ _) | (with_reducible refine Kd.C_drew ?_))); (case side2 => exact (Kd.R_reads' HO235.out).2.1); rintro e w111 ⟨v237, rfl, ho0, hb⟩; refine ⟨_, rfl, ?_⟩; have n0_ := Aside0.mk (Kd.R_elder' (by (with_reducible repeat (first | apply Kd.R_alloc | apply Kd.R_drewN | apply Kd.R_drew)); exact HO_3.out) (Kd.R_base ho0) hb); have n1_ := Aside0.mk (Kd.R_elder' (by (with_reducible repeat (first | apply Kd.R_alloc | apply Kd.R_drewN | apply Kd.R_drew)); exact HO235.out) (Kd.R_base ho0) hb); have n2_ := Aside0.mk (Kd.R_lower (Kd.R_new' (Kd.R_new' ho0 (Kd.R_lt (by (with_reducible repeat (first | apply Kd.R_alloc | apply Kd.R_drewN | apply Kd.R_drew)); exact HO_3.out))) (Kd.R_lt (by (with_reducible repeat (first | apply Kd.R_alloc | apply Kd.R_drewN | apply Kd.R_drew)); exact HO235.out))) (below_size (by repeat (first | (with_reducible first | exact HB.out | apply below_alloc | apply pw_below_drewN | apply below_drew1) | exact HB.out)))); have n3_ := Aside0.mk (below_step (by repeat (first | (with_reducible first | exact HB.out | apply below_alloc | apply pw_below_drewN | apply below_drew1) | exact HB.out)) hb); clear HO_3; clear HO235; clear HB; have HO_3 := n0_; have HO235 := n1_; have HO238 := n2_; have HB := n3_; clear n0_ n1_ n2_ n3_; (try clear hb); (try clear hb2); (try clear hk); (try clear hi); (try clear ho0)) | ((with_reducible refine gate_dst (N := 175) rfl ?_); (try (refine gate_guard (by rfl) ?_; dsimp only)); refine Kd.R_lit (Kd.int .u8) _ 5 ?hg (N := 175) ?hd (xs := ([] : List Int)) (inner := []) (ok := fun _ => True) (okp := fun _ => True) ?hr ?hp (fun _ hk => hk) trivial (Below.refl _ _) (Nat.le_refl _) (by simp) ?_; (case hd => rfl); (case hg => rfl); (case hr => first | (go_simp; done) | (go_simp; rfl)); (case hp => exact (Reps.none _ _)); intro v240 w112 ho113 hb hg_ hnew_; clear hg_ hnew_; (first | rw [← Ny239.out] at ho113 | (simp only [Int.reduceToNat] at ho113; rw [← Ny239.out] at ho113)); have n0_ := Aside0.mk (Kd.R_elder' (by (with_reducible repeat (first | apply Kd.R_alloc | apply Kd.R_drewN | apply Kd.R_drew)); exact HO_3.out) (Kd.R_base ho113) hb); have n1_ := Aside0.mk (Kd.R_elder' (by (with_reducible repeat (first | apply Kd.R_alloc | apply Kd.R_drewN | apply Kd.R_drew)); exact HO235.out) (Kd.R_base ho113) hb); have n2_ := Aside0.mk (Kd.R_elder' (by (with_reducible repeat (first | apply Kd.R_alloc | apply Kd.R_drewN | apply Kd.R_drew)); exact HO238.out) (Kd.R_base ho113) hb); have n3_ := Aside0.mk (Kd.R_lower (Kd.R_new' (Kd.R_new' (Kd.R_new' ho113 (Kd.R_lt (by (with_reducible repeat (first | apply Kd.R_alloc | apply Kd.R_drewN | apply Kd.R_drew)); exact HO_3.out))) (Kd.R_lt (by (with_reducible repeat (first | apply Kd.R_alloc | apply Kd.R_drewN | apply Kd.R_drew)); exact HO235.out))) (Kd.R_lt (by (with_reducible repeat (first | apply Kd.R_alloc | apply Kd.R_drewN | apply Kd.R_drew)); exact HO238.out))) (below_size (by repeat (first | (with_reducible first | exact HB.out | apply below_alloc | apply pw_below_drewN | apply below_drew1) | exact HB.out)))); have n4_ := Aside0.mk (below_step (by repeat (first | (with_reducible first | exact HB.out | apply below_alloc | apply pw_below_drewN | apply below_drew1) | exact HB.out)) hb); clear HO_3; clear HO235; clear HO238; clear HB; have HO_3 := n0_; have HO235 := n1_; have HO238 := n2_; have HO241 := n3_; have HB := n4_; clear n0_ n1_ n2_ n3_ n4_; clear hb ho113; obtain ⟨Ao115, co115, eo115⟩ := Kd.R_slice HO238.out; subst eo115) | ((with_reducible refine gate_builtin (b := .append) (xs := #[.tmp 175, .tmp 176]) rfl ?_); (try (refine gate_guard (by rfl) ?_; dsimp only)); at_builtin; refine Kd.R_append_rows (Kd.int .u8) (w0 := w) w.heap.size rfl (.tmp 175) (.tmp 176) 22 5 (.int .u8 0) 1 rfl Try.underlying22 info5 rfl (by decide) (by omega) v240 y239 t236 _ _ _ (fun k_ => some k_ ≠ (.slice Ao34 t196.length co34 : Value).ownBlock ∧ some k_ ≠ (.slice Ao110 y233.length co110 : Value).ownBlock ∧ some k_ ≠ (.slice Ao115 t236.length co115 : Value).ownBlock) (fun _ => False) rfl rfl ?aO ?aR (fun _ _ h => h) (fun _ h => h.elim) ?aF ?aB ?aS ?aL ?_; (case aR => repeat (first | exact (Kd.R_reads' HO238.out).2.2 | (with_reducible refine Kd.C_alloc ?_ _) | (with_reducible refine Kd.C_drewN ?_ _) | (with_reducible refine Kd.C_drew ?_))); (case aB => exact (by repeat (first | (with_reducible first | exact HB.out | apply below_alloc | apply pw_below_drewN | apply below_drew1) | exact HB.out))); (case aF => exact (fun k_ hk => ⟨Kd.fresh' (Kd.R_lt (by (with_reducible repeat (first | apply Kd.R_alloc | apply Kd.R_drewN | apply Kd.R_drew)); exact HO_3.out)) k_ hk, Kd.fresh' (Kd.R_lt (by (with_reducible repeat (first | apply Kd.R_alloc | apply Kd.R_drewN | apply Kd.R_drew)); exact HO235.out)) k_ hk, Kd.fresh' (Kd.R_lt (by (with_reducible repeat (first | apply Kd.R_alloc | apply Kd.R_drewN | apply Kd.R_drew)); exact HO238.out)) k_ hk⟩)); (case aO => exact (by (with_reducible repeat (first | apply Kd.R_alloc | apply Kd.R_drewN | apply Kd.R_drew)); exact Kd.R_mono HO241.out (fun _ hk => ⟨hk.1.1.2, ⟨hk.1.2, hk.2⟩⟩))); (case aS => exact (below_size (by repeat (first | (with_reducible first | exact HB.out | apply below_alloc | apply pw_below_drewN | apply below_drew1) | exact HB.out)))); (case aL => have := LMc98.out; omega); intro v243 w114 ho hb hg hat; rw [← Ny242.out] at ho; have n0_ := Aside0.mk (Kd.R_after (ok := (fun k_ => some k_ ≠ (.slice Ao110 y233.length co110 : Value).ownBlock ∧ some k_ ≠ (.slice Ao115 t236.length co115 : Value).ownBlock)) (by (with_reducible repeat (first | apply Kd.R_alloc | apply Kd.R_drewN | apply Kd.R_drew)); exact Kd.R_mono HO_3.out (fun _ hk => ⟨⟨hk.1.1.2, hk.1.2⟩, hk.2⟩)) hg hat); have n1_ := Aside0.mk (Kd.R_after (ok := (fun k_ => some k_ ≠ (.slice Ao34 t196.length co34 : Value).ownBlock ∧ some k_ ≠ (.slice Ao115 t236.length co115 : Value).ownBlock)) (by (with_reducible repeat (first | apply Kd.R_alloc | apply Kd.R_drewN | apply Kd.R_drew)); exact HO235.out) hg hat); have n2_ := Aside0.mk (Kd.R_after (ok := (fun k_ => some k_ ≠ (.slice Ao34 t196.length co34 : Value).ownBlock ∧ some k_ ≠ (.slice Ao110 y233.length co110 : Value).ownBlock)) (by (with_reducible repeat (first | apply Kd.R_alloc | apply Kd.R_drewN | apply Kd.R_drew)); exact Kd.R_mono HO238.out (fun _ hk => ⟨⟨hk.1.1.2, hk.1.2⟩, hk.2⟩)) hg hat); have n3_ := Aside0.mk (hb); have n4_ := Aside0.mk (ho); clear HO_3; clear HO235; clear HO238; clear HB; clear HO241; have HO_3 := n0_; have HO235 := n1_; have HO238 := n2_; have HB := n3_; have HO244 := n4_; clear n0_ n1_ n2_ n3_ n4_; clear ho hb hg hat; obtain ⟨Ao116, co116, eo116⟩ := Kd.R_slice HO244.out; subst eo116) | ((with_reducible refine gate_callee (f := 21) rfl ?_); refine goesL_ (some 179) rfl rfl Try.func21 (by kernel_rfl) rfl #[.slice Ao116 y242.length co116, .int .i64 t216, .bool false] rfl (by (try simp only [List.map_toArray, List.map_cons, List.map_nil]); first | done | rfl | (simp only [List.length_drop, List.length_take]; rfl)) ?_; (with_reducible refine (impl_BitPut.calls kj65 _ _ y242 t216 false t245 _ ?side1 ?side2 A99.out).mono ?_); (case side1 => repeat (first | exact (Kd.R_reads' HO244.out).2.2 | (with_reducible refine Kd.C_alloc ?_ _) | (with_reducible refine Kd.C_drewN ?_ _) | (with_reducible refine Kd.C_drew ?_))); (case side2 => exact (Kd.R_reads' HO244.out).2.1); rintro e w117 ⟨v246, rfl, ho0, hb⟩; refine ⟨_, rfl, ?_⟩; have n0_ := Aside0.mk (Kd.R_elder' (by (with_reducible repeat (first | apply Kd.R_alloc | apply Kd.R_drewN | apply Kd.R_drew)); exact HO_3.out) (Kd.R_base ho0) hb); have n1_ := Aside0.mk (Kd.R_elder' (by (with_reducible repeat (first | apply Kd.R_alloc | apply Kd.R_drewN | apply Kd.R_drew)); exact HO235.out) (Kd.R_base ho0) hb); have n2_ := Aside0.mk (Kd.R_elder' (by (with_reducible repeat (first | apply Kd.R_alloc | apply Kd.R_drewN | apply Kd.R_drew)); exact HO238.out) (Kd.R_base ho0) hb); have n3_ := Aside0.mk (Kd.R_elder' (by (with_reducible repeat (first | apply Kd.R_alloc | apply Kd.R_drewN | apply Kd.R_drew)); exact HO244.out) (Kd.R_base ho0) hb); have n4_ := Aside0.mk (Kd.R_lower (Kd.R_new' (Kd.R_new' (Kd.R_new' (Kd.R_new' ho0 (Kd.R_lt (by (with_reducible repeat (first | apply Kd.R_alloc | apply Kd.R_drewN | apply Kd.R_drew)); exact HO_3.out))) (Kd.R_lt (by (with_reducible repeat (first | apply Kd.R_alloc | apply Kd.R_drewN | apply Kd.R_drew)); exact HO235.out))) (Kd.R_lt (by (with_reducible repeat (first | apply Kd.R_alloc | apply Kd.R_drewN | apply Kd.R_drew)); exact HO238.out))) (Kd.R_lt (by (with_reducible repeat (first | apply Kd.R_alloc | apply Kd.R_drewN | apply Kd.R_drew)); exact HO244.out))) (below_size (by repeat (first | (with_reducible first | exact HB.out | apply below_alloc | apply pw_below_drewN | apply below_drew1) | exact HB.out)))); have n5_ := Aside0.mk (below_step (by repeat (first | (with_reducible first | exact HB.out | apply below_alloc | apply pw_below_drewN | apply below_drew1) | exact HB.out)) hb); clear HO_3; clear HO235; clear HO238; clear HO244; clear HB; have HO_3 := n0_; have HO235 := n1_; have HO238 := n2_; have HO244 := n3_; have HO247 := n4_; have HB := n5_; clear n0_ n1_ n2_ n3_ n4_ n5_; (try clear hb); (try clear hb2); (try clear hk); (try clear hi); (try clear ho0)) | (go_at_call 20; (with_reducible refine (impl_BitGet.calls _ _ t236 t216 true _ ?side1 ?side2 A101.out).mono ?_); (case side1 => repeat (first | exact (Kd.R_reads' HO238.out).2.2 | (with_reducible refine Kd.C_alloc ?_ _) | (with_reducible refine Kd.C_drewN ?_ _) | (with_reducible refine Kd.C_drew ?_))); (case side2 => exact (Kd.R_reads' HO238.out).2.1); rintro e w' ⟨rfl, ⟨nd, rfl⟩⟩; obtain ⟨Ao118, co118, eo118⟩ := Kd.R_slice HO247.out; subst eo118) | (go_at_call 22; (with_reducible refine (laws_lwSameBytes.calls _ _ t245 _ _ t196 true _ ?side1 ?side2 ?side3 ?side4 A103.out).mono ?_); (case side1 => repeat (first | exact (Kd.R_reads' HO247.out).2.2 | (with_reducible refine Kd.C_alloc ?_ _) | (with_reducible refine Kd.C_drewN ?_ _) | (with_reducible refine Kd.C_drew ?_))); (case side2 => exact (Kd.R_reads' HO247.out).2.1); (case side3 => repeat (first | exact (Kd.R_reads' HO_3.out).2.2 | (with_reducible refine Kd.C_alloc ?_ _) | (with_reducible refine Kd.C_drewN ?_ _) | (with_reducible refine Kd.C_drew ?_))); (case side4 => exact (Kd.R_reads' HO_3.out).2.1); rintro e w' ⟨rfl, ⟨nd, rfl⟩⟩) | (go_at_call 18; (with_reducible refine (impl_BitCount.calls kj65 _ _ t236 0 (wrap64 (8 * (t196.length : Int))) t250 _ ?side1 ?side2 A105.out).mono ?_); (case side1 => repeat (first | exact (Kd.R_reads' HO238.out).2.2 | (with_reducible refine Kd.C_alloc ?_ _) | (with_reducible refine Kd.C_drewN ?_ _) | (with_reducible refine Kd.C_drew ?_))); (case side2 => exact (Kd.R_reads' HO238.out).2.1); rintro e w119 ⟨rfl, hb⟩; have n0_ := Aside0.mk (Kd.R_below (by (with_reducible repeat (first | apply Kd.R_alloc | apply Kd.R_drewN | apply Kd.R_drew)); exact HO_3.out) hb); have n1_ := Aside0.mk (Kd.R_below (by (with_reducible repeat (first | apply Kd.R_alloc | apply Kd.R_drewN | apply Kd.R_drew)); exact HO235.out) hb); have n2_ := Aside0.mk (Kd.R_below (by (with_reducible repeat (first | apply Kd.R_alloc | apply Kd.R_drewN | apply Kd.R_drew)); exact HO238.out) hb); have n3_ := Aside0.mk (Kd.R_below (by (with_reducible repeat (first | apply Kd.R_alloc | apply Kd.R_drewN | apply Kd.R_drew)); exact HO244.out) hb); have n4_ := Aside0.mk (Kd.R_below (by (with_reducible repeat (first | apply Kd.R_alloc | apply Kd.R_drewN | apply Kd.R_drew)); exact HO247.out) hb); have n5_ := Aside0.mk (below_step (by repeat (first | (with_reducible first | exact HB.out | apply below_alloc | apply pw_below_drewN | apply below_drew1) | exact HB.out)) hb); clear HO_3; clear HO235; clear HO238; clear HO244; clear HO247; clear HB; have HO_3 := n0_; have HO235 := n1_; have HO238 := n2_; have HO244 := n3_; have HO247 := n4_; have HB := n5_; clear n0_ n1_ n2_ n3_ n4_ n5_; (try clear hb); (try clear hb2); (try clear hk); (try clear hi)) | (go_at_call 23; (with_reducible refine (spec_BitCount.calls kj65 _ _ t196 0 (wrap64 (8 * (t196.length : Int))) t251 _ ?side1 ?side2 A106.out).mono ?_); (case side1 => repeat (first | exact (Kd.R_reads' HO_3.out).2.2 | (with_reducible refine Kd.C_alloc ?_ _) | (with_reducible refine Kd.C_drewN ?_ _) | (with_reducible refine Kd.C_drew ?_))); (case side2 => exact (Kd.R_reads' HO_3.out).2.1); rintro e w120 ⟨rfl, hb⟩; have n0_ := Aside0.mk (Kd.R_below (by (with_reducible repeat (first | apply Kd.R_alloc | apply Kd.R_drewN | apply Kd.R_drew)); exact HO_3.out) hb); have n1_ := Aside0.mk (Kd.R_below (by (with_reducible repeat (first | apply Kd.R_alloc | apply Kd.R_drewN | apply Kd.R_drew)); exact HO235.out) hb); have n2_ := Aside0.mk (Kd.R_below (by (with_reducible repeat (first | apply Kd.R_alloc | apply Kd.R_drewN | apply Kd.R_drew)); exact HO238.out) hb); have n3_ := Aside0.mk (Kd.R_below (by (with_reducible repeat (first | apply Kd.R_alloc | apply Kd.R_drewN | apply Kd.R_drew)); exact HO244.out) hb); have n4_ := Aside0.mk (Kd.R_below (by (with_reducible repeat (first | apply Kd.R_alloc | apply Kd.R_drewN | apply Kd.R_drew)); exact HO247.out) hb); have n5_ := Aside0.mk (below_step (by repeat (first | (with_reducible first | exact HB.out | apply below_alloc | apply pw_below_drewN | apply below_drew1) | exact HB.out)) hb); clear HO_3; clear HO235; clear HO238; clear HO244; clear HO247; clear HB; have HO_3 := n0_; have HO235 := n1_; have HO238 := n2_; have HO244 := n3_; have HO247 := n4_; have HB := n5_; clear n0_ n1_ n2_ n3_ n4_ n5_; (try clear hb); (try clear hb2); (try clear hk); (try clear hi)))
                                  go_ret
                                  exact ⟨by first | rfl | (simp [errW_none, errW_some] <;> rfl) | (simp only [← hji8, ← hji9, ← hji10, ← hji11]; first | rfl | (simp [errW_none, errW_some] <;> rfl)) | (simp [*, errW_none, errW_some] <;> rfl), by repeat (first | (with_reducible first | exact HB.out | apply below_alloc | apply pw_below_drewN | apply below_drew1) | exact HB.out)⟩
                                · replace c104 := Bool.eq_false_iff.mpr c104
                                  subst c104
                                  have H1 : (some false) = some r := by rw [if_neg (show ¬ (false = true) by decide)] at H; exact H
                                  clear H
                                  have H := H1
                                  clear H1
                                  exact absurd ((Option.some.inj H).trans hrt.out) (by simp)
                              · replace c102 := Bool.eq_false_iff.mpr c102
                                subst c102
                                have H1 : (some false) = some r := by rw [if_neg (show ¬ (false = true) by decide)] at H; exact H
                                clear H
                                have H := H1
                                clear H1
                                exact absurd ((Option.some.inj H).trans hrt.out) (by simp)
                            · rw [if_neg c100] at H
                              have c100b0 : ((t236.length : Int) == (t196.length : Int)) = false := beq_eq_false_iff_ne.mpr c100
                              have c100b1 : ((t236.length : Int) != (t196.length : Int)) = true := bne_iff_ne.mpr c100
                              have c100b2 : (t236.length == t196.length) = false := by first | simpa using c100 | (simp at c100 ⊢; omega)
                              exact absurd ((Option.some.inj H).trans hrt.out) (by simp)
                          · rw [if_neg c98] at H
                            exact absurd H (by simp)
                        · rw [if_neg c96] at H
                          exact absurd H (by simp)
      · rw [if_neg c6] at H
        exact absurd H (by simp)
    · rw [if_neg c4] at H
      exact absurd H (by simp)

/-- THE ONE PURE STATEMENT of laws_FnBits: yours. -/
def laws_FnBits.Pure : Prop := ∀ (l0 : List Int), l0.length ≤ maxLen → l0.length * 1 ≤ 140737488351232 → (∀ x ∈ l0, (Lit.int .u8 x).wf = true) → ∃ k, laws_FnBits.f k l0 = some true
theorem laws_FnBits.walk (P : laws_FnBits.Pure) (a0 : Option Addr) (len0 cap0 : Nat) (z0 : List Int) (w : World) (w0 : (a0 = none ∧ len0 = 0 ∧ cap0 = 0 ∧ z0 = []) ∨ ∃ x, a0 = some x ∧ len0 ≤ cap0 ∧ cap0 ≤ maxLen ∧ z0.length = cap0 ∧ (∀ i, i < z0.length → w.cell? (x.add i) = some (.int .u8 (z0.getD i 0))) ∧ ∀ n ∈ z0, (Lit.int .u8 n).wf = true) (y0 : len0 * 1 ≤ 140737488351232) :
    Calls Try.prog 4 #[.slice a0 len0 cap0] w fun e w' => e = .returned (.bool true) ∧ Below w.heap.size w w' := by
  obtain ⟨l0, rfl, hr0, hm0, hw0, hc0⟩ := ReadsInt.ofRowC w0
  obtain ⟨k, h⟩ := P l0 hm0 y0 hw0
  refine (laws_FnBits.calls k _ _ l0 true w (Kd.C_of_reads (d := (0 : Int)) (h1 := fun _ => rfl) hr0) hc0 h ⟨rfl⟩).mono ?_
  rintro e w' ⟨rfl, hd⟩
  exact ⟨rfl, hd⟩

end Go.Proofs.Ytikandlenlhdkaa.PFnBits
