-- written by a program of this session (wip/src/print2.py)
import Derived.Test.YtikandlenlhdkaaPFnExactUnquotex0
namespace Go.Proofs.Ytikandlenlhdkaa.PFnExactUnquote
open Go.RowKit Go.Proofs.YtikandlenlhdkaaW.PrintWords Go.Proofs.YtikandlenlhdkaaW.PrintLast Go.Proofs.YtikandlenlhdkaaW.PrintMore
attribute [local go_sem] max2_int min2_int max_two min_two max_three min_three max_four min_four   -- for this text's walks alone
set_option linter.unusedVariables false
set_option linter.unusedSimpArgs false

/-! ### spec_l14Plain: function 38 -/
def spec_l14Plain.f (a0 : Int) : Option (Bool) := if a0 ≥ 33 then (if a0 ≤ 126 then (some (a0 != 37)) else (some false)) else (some false)
set_option maxHeartbeats 8000000 in
set_option maxRecDepth 100000 in
theorem spec_l14Plain.calls (a0 : Int) (r : Bool) (w : World) (h : spec_l14Plain.f a0 = some r) :
    Calls Try.prog 38 #[.int .u8 a0] w fun e w' => e = .returned (.bool r) ∧ Drawn0 w w' := by
  have H : (if a0 ≥ 33 then (if a0 ≤ 126 then (some (a0 != 37)) else (some false)) else (some false)) = some r := h
  clear h
  by_cases c2 : a0 ≥ 33
  · rw [if_pos c2] at H
    have c2b0 : decide (33 ≤ a0) = true := decide_eq_true c2
    clear c2
    by_cases c3 : a0 ≤ 126
    · rw [if_pos c3] at H
      have c3b0 : decide (a0 ≤ 126) = true := decide_eq_true c3
      clear c3
      obtain rfl := Option.some.inj H
      go_enter Try.func38, Try.ntmps38
      go_wp2
      go_ret
      exact ⟨by first | rfl | (simp; done) | (simp [*]; done), by repeat (first | exact Drawn0.refl _ | apply Drawn0.step)⟩
    · rw [if_neg c3] at H
      have c3b0 : decide (a0 ≤ 126) = false := decide_eq_false c3
      clear c3
      obtain rfl := Option.some.inj H
      go_enter Try.func38, Try.ntmps38
      go_wp2
      go_ret
      exact ⟨by first | rfl | (simp; done) | (simp [*]; done), by repeat (first | exact Drawn0.refl _ | apply Drawn0.step)⟩
  · rw [if_neg c2] at H
    have c2b0 : decide (33 ≤ a0) = false := decide_eq_false c2
    clear c2
    obtain rfl := Option.some.inj H
    go_enter Try.func38, Try.ntmps38
    go_wp2
    go_ret
    exact ⟨by first | rfl | (simp; done) | (simp [*]; done), by repeat (first | exact Drawn0.refl _ | apply Drawn0.step)⟩

/-! ### spec_l14Hex: function 39 -/
def spec_l14Hex.f (a0 : Int) : Option (ByteArray) := if 0 ≤ a0 then (if a0 ≤ ((a0 + 1) % 256) then (if ((a0 + 1) % 256) ≤ 16 then (some ((⟨#[48, 49, 50, 51, 52, 53, 54, 55, 56, 57, 97, 98, 99, 100, 101, 102]⟩ : ByteArray).extract (a0 : Int).toNat (((a0 + 1) % 256) : Int).toNat)) else (none)) else (none)) else (none)
set_option maxHeartbeats 8000000 in
set_option maxRecDepth 100000 in
theorem spec_l14Hex.calls (a0 : Int) (r : ByteArray) (w : World) (h : spec_l14Hex.f a0 = some r) :
    Calls Try.prog 39 #[.int .u8 a0] w fun e w' => e = .returned (.string r) ∧ Drawn0 w w' := by
  have H : (if 0 ≤ a0 then (if a0 ≤ ((a0 + 1) % 256) then (if ((a0 + 1) % 256) ≤ 16 then (some ((⟨#[48, 49, 50, 51, 52, 53, 54, 55, 56, 57, 97, 98, 99, 100, 101, 102]⟩ : ByteArray).extract (a0 : Int).toNat (((a0 + 1) % 256) : Int).toNat)) else (none)) else (none)) else (none)) = some r := h
  clear h
  by_cases c2 : 0 ≤ a0
  · rw [if_pos c2] at H
    have c2b0 := eq_true c2
    have c2b1 : decide (0 ≤ a0) = true := decide_eq_true c2
    clear c2
    by_cases c3 : a0 ≤ ((a0 + 1) % 256)
    · rw [if_pos c3] at H
      have c3b0 := eq_true c3
      have c3b1 : decide (a0 ≤ ((a0 + 1) % 256)) = true := decide_eq_true c3
      by_cases c4 : ((a0 + 1) % 256) ≤ 16
      · rw [if_pos c4] at H
        have c4b0 := eq_true c4
        have c4b1 : decide (((a0 + 1) % 256) ≤ 16) = true := decide_eq_true c4
        obtain rfl := Option.some.inj H
        go_enter Try.func39, Try.ntmps39
        go_wp2
        go_ret
        exact ⟨by first | rfl | (simp; done) | (simp [*]; done), by repeat (first | exact Drawn0.refl _ | apply Drawn0.step)⟩
      · rw [if_neg c4] at H
        exact absurd H (by simp)
    · rw [if_neg c3] at H
      exact absurd H (by simp)
  · rw [if_neg c2] at H
    exact absurd H (by simp)

/-! ### spec_l14Digit: function 43 -/
def spec_l14Digit.l0 : Nat → Int → Int → Option (Int)
  | 0, _, _ => none
  | k + 1, x0, x3 => if x3 < 16 then ((spec_l14Hex.f x3).bind fun t101 => (if 0 < (t101.size : Int) then (if (bt t101 0) = x0 then (some (wrap64 (x3))) else (spec_l14Digit.l0 k x0 ((x3 + 1) % 256))) else (none))) else (some (-1))
def spec_l14Digit.f (k : Nat) (a0 : Int) : Option (Int) := spec_l14Digit.l0 k a0 0
theorem spec_l14Digit.mono_l : ∀ k, (∀ y0 y1, LeO (spec_l14Digit.l0 k y0 y1) (spec_l14Digit.l0 (k + 1) y0 y1))
  | 0 => fun _ _ r h => by simp [spec_l14Digit.l0] at h
  | k + 1 => by
    have ih0 := spec_l14Digit.mono_l k
    · intro y0 y1
      unfold spec_l14Digit.l0
      repeat' first
      | (with_reducible exact ih0 _ _)
      | (with_reducible exact LeO.refl _)
      | (with_reducible exact LeO.none _)
      | (with_reducible refine LeO.ite ?_ ?_)
      | (with_reducible refine LeO.bind ?_ (fun _ => ?_))
      | exact ih0 _ _
      | exact LeO.none _
      | refine LeO.ite ?_ ?_
      | refine LeO.bind ?_ (fun _ => ?_)
theorem spec_l14Digit.mono : ∀ a0 k, LeO (spec_l14Digit.f k a0) (spec_l14Digit.f (k + 1) a0) := by
  intro a0 k
  have ih0 := spec_l14Digit.mono_l k
  unfold spec_l14Digit.f
  repeat' first
      | (with_reducible exact ih0 _ _)
      | (with_reducible exact LeO.refl _)
      | (with_reducible exact LeO.none _)
      | (with_reducible refine LeO.ite ?_ ?_)
      | (with_reducible refine LeO.bind ?_ (fun _ => ?_))
      | exact ih0 _ _
      | exact LeO.none _
      | refine LeO.ite ?_ ?_
      | refine LeO.bind ?_ (fun _ => ?_)
set_option maxHeartbeats 8000000 in
set_option maxRecDepth 100000 in
theorem spec_l14Digit.calls (k : Nat) (a0 : Int) (r : Int) (w : World) (h : spec_l14Digit.f k a0 = some r) :
    Calls Try.prog 43 #[.int .u8 a0] w fun e w' => e = .returned (.int .i64 r) ∧ Drawn0 w w' := by
  have H : (spec_l14Digit.l0 k a0 0) = some r := h
  clear h
  have H' := Aside0.mk H
  clear H
  go_enter Try.func43, Try.ntmps43
  go_wp2
  go_loopg [3] k (fun kq v3 w' => ∃ (x3_1 : Int), v3 = .int .u8 x3_1 ∧ Aside0 (spec_l14Digit.l0 kq a0 x3_1 = some r) ∧ Aside0 (kq ≤ k) ∧ Drawn0 w w')
  case atStart => exact ⟨(0), (by first | rfl | (simp; done) | (simp [*]; done)), H', ⟨Nat.le_refl _⟩, by repeat (first | exact Drawn0.refl _ | apply Drawn0.step)⟩
  case round =>
    clear H'
    obtain ⟨x3_1, rfl, HA, HK1, ⟨m1, rfl⟩⟩ := hrel
    cases gk with
    | zero => exact absurd HA.out (by simp [spec_l14Digit.l0])
    | succ k1 =>
      have H := HA.out
      clear HA
      simp only [spec_l14Digit.l0] at H
      by_cases c2 : x3_1 < 16
      · rw [if_pos c2] at H
        have c2b0 : decide (x3_1 < 16) = true := decide_eq_true c2
        clear c2
        replace H := Option.bind_eq_some_iff.mp H
        obtain ⟨t101, A30, H⟩ := H
        replace H : (if 0 < (t101.size : Int) then (if (bt t101 0) = a0 then (some (wrap64 (x3_1))) else (spec_l14Digit.l0 k1 a0 ((x3_1 + 1) % 256))) else (none)) = some r := H
        have A3 := Aside0.mk A30
        clear A30
        by_cases c4 : 0 < (t101.size : Int)
        · rw [if_pos c4] at H
          have c4b0 : decide (0 < (t101.size : Int)) = true := decide_eq_true c4
          have c4b1 : decide (0 < t101.size) = true := decide_eq_true (by omega)
          clear c4
          by_cases c6 : (bt t101 0) = a0
          · rw [if_pos c6] at H
            have c6b0 : ((bt t101 0) == a0) = true := beq_iff_eq.mpr c6
            have c6b1 : ((bt t101 0) != a0) = false := bne_eq_false_iff_eq.mpr c6
            clear c6
            obtain rfl := Option.some.inj H
            go_wp2_with (first | ((with_reducible refine gate_callee (f := 39) rfl ?_); refine goesL_ (some 9) rfl rfl Try.func39 (by kernel_rfl) rfl #[.int .u8 x3_1] rfl (by (try simp only [List.map_toArray, List.map_cons, List.map_nil]); first | done | rfl | (simp only [List.length_drop, List.length_take]; rfl)) ?_; (with_reducible refine (spec_l14Hex.calls x3_1 t101 _ A3.out).mono ?_); rintro e w' ⟨rfl, ⟨nd, rfl⟩⟩; refine ⟨_, rfl, ?_⟩; have p5 : 0 ≤ (0 : Int) := (by omega); have q5 : 0 < t101.size := (by have : (0 : Int) < (t101.size : Int) := of_decide_eq_true (by first | (with_reducible assumption) | assumption); omega); have hx5 : ∀ h : 0 < t101.size, ((t101[0]'h).toNat : Int) = bt t101 0 := bt_at t101 0; clear p5; have qi5 : (0 < (t101.size : Int)) = True := eq_true (of_decide_eq_true (by first | (with_reducible assumption) | assumption)); replace q5 := eq_true q5))
            go_ret
            exact ⟨by first | rfl | (simp; done) | (simp [*]; done), by repeat (first | exact Drawn0.refl _ | apply Drawn0.step)⟩
          · rw [if_neg c6] at H
            have c6b0 : ((bt t101 0) == a0) = false := beq_eq_false_iff_ne.mpr c6
            have c6b1 : ((bt t101 0) != a0) = true := bne_iff_ne.mpr c6
            have H' := Aside0.mk H
            clear H
            go_wp2_with (first | ((with_reducible refine gate_callee (f := 39) rfl ?_); refine goesL_ (some 9) rfl rfl Try.func39 (by kernel_rfl) rfl #[.int .u8 x3_1] rfl (by (try simp only [List.map_toArray, List.map_cons, List.map_nil]); first | done | rfl | (simp only [List.length_drop, List.length_take]; rfl)) ?_; (with_reducible refine (spec_l14Hex.calls x3_1 t101 _ A3.out).mono ?_); rintro e w' ⟨rfl, ⟨nd, rfl⟩⟩; refine ⟨_, rfl, ?_⟩; have p5 : 0 ≤ (0 : Int) := (by omega); have q5 : 0 < t101.size := (by have : (0 : Int) < (t101.size : Int) := of_decide_eq_true (by first | (with_reducible assumption) | assumption); omega); have hx5 : ∀ h : 0 < t101.size, ((t101[0]'h).toNat : Int) = bt t101 0 := bt_at t101 0; clear p5; have qi5 : (0 < (t101.size : Int)) = True := eq_true (of_decide_eq_true (by first | (with_reducible assumption) | assumption)); replace q5 := eq_true q5))
            go_roundg k1
            case measure => have := HK1.out; omega
            case rel => exact ⟨((x3_1 + 1) % 256), (by first | rfl | (simp; done) | (simp [*]; done)), H', ⟨by have := HK1.out; omega⟩, by repeat (first | exact Drawn0.refl _ | apply Drawn0.step)⟩
        · rw [if_neg c4] at H
          exact absurd H (by simp)
      · rw [if_neg c2] at H
        have c2b0 : decide (x3_1 < 16) = false := decide_eq_false c2
        clear c2
        obtain rfl := Option.some.inj H
        go_wp2
        go_ret
        exact ⟨by first | rfl | (simp; done) | (simp [*]; done), by repeat (first | exact Drawn0.refl _ | apply Drawn0.step)⟩

/-! ### spec_Unquote: function 26 -/
mutual
def spec_Unquote.l0 : Nat → ByteArray → List Int → Int → Option (Bool × ByteArray)
  | 0, _, _, _ => none
  | k + 1, x0, x3, x4 => if x4 < (x0.size : Int) then (if 0 ≤ x4 then ((spec_l14Plain.f (bt x0 x4)).bind fun t106 => (if t106 = true then (if x3.length < 140737488355328 then (spec_Unquote.l0 k x0 (x3 ++ [bt x0 x4]) (wrap64 (x4 + 1))) else (none)) else (if (bt x0 x4) = 37 then (spec_Unquote.j1 k x0 x3 x4 (decide ((wrap64 (x4 + 2)) ≥ (x0.size : Int)))) else (spec_Unquote.j1 k x0 x3 x4 true)))) else (none)) else (if (x3.length : Int) = 0 then (some (false, (⟨#[]⟩ : ByteArray))) else (if (x3.length : Int) > 65536 then (some (false, (⟨#[]⟩ : ByteArray))) else (some (true, strOfNums x3))))
def spec_Unquote.j1 : Nat → ByteArray → List Int → Int → Bool → Option (Bool × ByteArray)
  | 0, _, _, _, _ => none
  | k + 1, x0, x3, x4, x37 => if x37 = true then (some (false, (⟨#[]⟩ : ByteArray))) else (if 0 ≤ (wrap64 (x4 + 1)) then (if (wrap64 (x4 + 1)) < (x0.size : Int) then ((spec_l14Digit.f k (bt x0 (wrap64 (x4 + 1)))).bind fun t110 => (if 0 ≤ (wrap64 (x4 + 2)) then (if (wrap64 (x4 + 2)) < (x0.size : Int) then ((spec_l14Digit.f k (bt x0 (wrap64 (x4 + 2)))).bind fun t111 => (if t110 < 0 then (some (false, (⟨#[]⟩ : ByteArray))) else (if t111 < 0 then (some (false, (⟨#[]⟩ : ByteArray))) else ((spec_l14Plain.f ((wrap64 ((wrap64 (t110 * 16)) + t111)) % 256)).bind fun t112 => (if t112 = true then (some (false, (⟨#[]⟩ : ByteArray))) else (if x3.length < 140737488355328 then (spec_Unquote.l0 k x0 (x3 ++ [(wrap64 ((wrap64 (t110 * 16)) + t111)) % 256]) (wrap64 ((wrap64 (x4 + 2)) + 1))) else (none))))))) else (none)) else (none))) else (none)) else (none))
end
def spec_Unquote.f (k : Nat) (a0 : ByteArray) : Option (Bool × ByteArray) := if a0.toList = ([37] : List UInt8) then (some (true, (⟨#[]⟩ : ByteArray))) else (spec_Unquote.l0 k a0 (([] : List Int)) 0)
theorem spec_Unquote.mono_l : ∀ k, (∀ y0 y1 y2, LeO (spec_Unquote.l0 k y0 y1 y2) (spec_Unquote.l0 (k + 1) y0 y1 y2)) ∧ (∀ y0 y1 y2 y3, LeO (spec_Unquote.j1 k y0 y1 y2 y3) (spec_Unquote.j1 (k + 1) y0 y1 y2 y3))
  | 0 => ⟨fun _ _ _ r h => by simp [spec_Unquote.l0] at h, fun _ _ _ _ r h => by simp [spec_Unquote.j1] at h⟩
  | k + 1 => by
    obtain ⟨ih0, ih1⟩ := spec_Unquote.mono_l k
    refine ⟨?_, ?_⟩
    · intro y0 y1 y2
      unfold spec_Unquote.l0
      repeat' first
      | (with_reducible exact ih0 _ _ _)
      | (with_reducible exact ih1 _ _ _ _)
      | (with_reducible exact spec_l14Digit.mono _ _)
      | (with_reducible exact LeO.refl _)
      | (with_reducible exact LeO.none _)
      | (with_reducible refine LeO.ite ?_ ?_)
      | (with_reducible refine LeO.bind ?_ (fun _ => ?_))
      | exact ih0 _ _ _
      | exact ih1 _ _ _ _
      | exact spec_l14Digit.mono _ _
      | exact LeO.none _
      | refine LeO.ite ?_ ?_
      | refine LeO.bind ?_ (fun _ => ?_)
    · intro y0 y1 y2 y3
      unfold spec_Unquote.j1
      repeat' first
      | (with_reducible exact ih0 _ _ _)
      | (with_reducible exact ih1 _ _ _ _)
      | (with_reducible exact spec_l14Digit.mono _ _)
      | (with_reducible exact LeO.refl _)
      | (with_reducible exact LeO.none _)
      | (with_reducible refine LeO.ite ?_ ?_)
      | (with_reducible refine LeO.bind ?_ (fun _ => ?_))
      | exact ih0 _ _ _
      | exact ih1 _ _ _ _
      | exact spec_l14Digit.mono _ _
      | exact LeO.none _
      | refine LeO.ite ?_ ?_
      | refine LeO.bind ?_ (fun _ => ?_)
theorem spec_Unquote.mono : ∀ a0 k, LeO (spec_Unquote.f k a0) (spec_Unquote.f (k + 1) a0) := by
  intro a0 k
  obtain ⟨ih0, ih1⟩ := spec_Unquote.mono_l k
  unfold spec_Unquote.f
  repeat' first
      | (with_reducible exact ih0 _ _ _)
      | (with_reducible exact ih1 _ _ _ _)
      | (with_reducible exact spec_l14Digit.mono _ _)
      | (with_reducible exact LeO.refl _)
      | (with_reducible exact LeO.none _)
      | (with_reducible refine LeO.ite ?_ ?_)
      | (with_reducible refine LeO.bind ?_ (fun _ => ?_))
      | exact ih0 _ _ _
      | exact ih1 _ _ _ _
      | exact spec_l14Digit.mono _ _
      | exact LeO.none _
      | refine LeO.ite ?_ ?_
      | refine LeO.bind ?_ (fun _ => ?_)
set_option maxHeartbeats 8000000 in
set_option maxRecDepth 100000 in
theorem spec_Unquote.calls (k : Nat) (a0 : ByteArray) (r1 : Bool) (r2 : ByteArray) (w : World) (h : spec_Unquote.f k a0 = some (r1, r2)) :
    Calls Try.prog 26 #[.string a0] w fun e w' => e = .returned (.agg #[.bool r1, .string r2]) ∧ Below w.heap.size w w' := by
  have hu42 := Try.underlying42
  have HB := Aside0.mk (Below.refl w.heap.size w)
  have H : (if a0.toList = ([37] : List UInt8) then (some (true, (⟨#[]⟩ : ByteArray))) else (spec_Unquote.l0 k a0 (([] : List Int)) 0)) = some (r1, r2) := h
  clear h
  by_cases c2 : a0.toList = ([37] : List UInt8)
  · rw [if_pos c2] at H
    have c2b0 : (a0.toList == ([37] : List UInt8)) = true := beq_iff_eq.mpr c2
    have c2b1 : (a0.toList != ([37] : List UInt8)) = false := bne_eq_false_iff_eq.mpr c2
    clear c2
    simp only [Option.some.injEq, Prod.mk.injEq] at H
    obtain ⟨rfl, rfl⟩ := H
    go_enter Try.func26, Try.ntmps26
    go_wp2_with (first | ((with_reducible refine gate_dst (N := 2) rfl ?_); (try (refine gate_guard (by rfl) ?_; dsimp only)); refine box_event ?hg (N := 2) ?hd (cs := #[.bool false, .string (⟨#[]⟩ : ByteArray)]) (t := 42) ?hr ?_; (case hd => rfl); (case hg => rfl); (case hr => first | (go_simp; done) | (go_simp; rfl)); intro gb102 hg w3 hbox hb; have n0_ := Aside0.mk (below_step (by repeat (first | (with_reducible first | exact HB.out | apply below_alloc | apply pw_below_drewN | apply below_drew1) | exact HB.out)) hb); have n1_ := Aside0.mk (hbox); have n2_ := Aside0.mk ((by rw [hg]; exact (below_size (by repeat (first | (with_reducible first | exact HB.out | apply below_alloc | apply pw_below_drewN | apply below_drew1) | exact HB.out))) : w.heap.size ≤ gb102)); have n3_ := Aside0.mk ((by rw [hg]; exact (below_size (by repeat (first | (with_reducible first | exact HB.out | apply below_alloc | apply pw_below_drewN | apply below_drew1) | exact HB.out))) : w.heap.size ≤ gb102)); clear HB; have HB := n0_; have BK102 := n1_; have GW102 := n2_; have GE102 := n3_; clear n0_ n1_ n2_ n3_; clear hb hbox hg; have hcz4_0 : w3.cell? ⟨gb102, 0, none⟩ = some (.bool false) := (blk_cell BK102.out 0).trans rfl; have hcz4_1 : w3.cell? ⟨gb102, 1, none⟩ = some (.string (⟨#[]⟩ : ByteArray)) := (blk_cell BK102.out 1).trans rfl; have hfz4_0 := blk_frozen BK102.out 0; have hfz4_1 := blk_frozen BK102.out 1))
    refine bodyPost_ret (results_cell_row rfl _ _ gb102 42 #[.bool true, .string (⟨#[]⟩ : ByteArray)] (0, 0) _ rfl (by (with_reducible repeat (first | refine blk_drewN ?_ _ | refine blk_drew ?_ | refine blk_alloc ?_ _)); refine blk_put (cs := #[.bool true, .string (⟨#[]⟩ : ByteArray)]) ?_ 1 _ rfl; (with_reducible repeat (first | refine blk_drewN ?_ _ | refine blk_drew ?_ | refine blk_alloc ?_ _)); refine blk_put (cs := #[.bool false, .string (⟨#[]⟩ : ByteArray)]) ?_ 0 _ rfl; (with_reducible repeat (first | refine blk_drewN ?_ _ | refine blk_drew ?_ | refine blk_alloc ?_ _)); exact BK102.out) Try.underlying42 rfl (by kernel_rfl)) rfl ?_
    exact ⟨by first | rfl | (simp [errW_none, errW_some] <;> rfl) | (simp [*, errW_none, errW_some] <;> rfl), by repeat (first | (with_reducible first | exact HB.out | apply below_alloc | apply pw_below_drewN | apply below_drew1 | refine below_set ?_ GE102.out) | exact HB.out)⟩
  · rw [if_neg c2] at H
    have c2b0 : (a0.toList == ([37] : List UInt8)) = false := beq_eq_false_iff_ne.mpr c2
    have c2b1 : (a0.toList != ([37] : List UInt8)) = true := bne_iff_ne.mpr c2
    obtain ⟨y103, hy103⟩ : ∃ y_ : List Int, y_ = (([] : List Int)) := ⟨_, rfl⟩
    replace H : (spec_Unquote.l0 k a0 y103 0) = some (r1, r2) := by first | (rw [hy103]; with_reducible exact H) | (have H2_ := (Option.bind_some _ _).symm.trans H; rw [hy103]; with_reducible exact H2_) | (have H2_ := (Option.bind_some _ _).symm.trans H; with_reducible exact H2_) | with_reducible exact H | (rw [hy103]; exact H) | exact H
    have Ny103 := Aside0.mk hy103
    clear hy103
    have H' := Aside0.mk H
    clear H
    go_enter Try.func26, Try.ntmps26
    go_wp2_with (first | ((with_reducible refine gate_dst (N := 2) rfl ?_); (try (refine gate_guard (by rfl) ?_; dsimp only)); refine box_event ?hg (N := 2) ?hd (cs := #[.bool false, .string (⟨#[]⟩ : ByteArray)]) (t := 42) ?hr ?_; (case hd => rfl); (case hg => rfl); (case hr => first | (go_simp; done) | (go_simp; rfl)); intro gb102 hg w5 hbox hb; have n0_ := Aside0.mk (below_step (by repeat (first | (with_reducible first | exact HB.out | apply below_alloc | apply pw_below_drewN | apply below_drew1) | exact HB.out)) hb); have n1_ := Aside0.mk (hbox); have n2_ := Aside0.mk ((by rw [hg]; exact (below_size (by repeat (first | (with_reducible first | exact HB.out | apply below_alloc | apply pw_below_drewN | apply below_drew1) | exact HB.out))) : w.heap.size ≤ gb102)); have n3_ := Aside0.mk ((by rw [hg]; exact (below_size (by repeat (first | (with_reducible first | exact HB.out | apply below_alloc | apply pw_below_drewN | apply below_drew1) | exact HB.out))) : w.heap.size ≤ gb102)); clear HB; have HB := n0_; have BK102 := n1_; have GW102 := n2_; have GE102 := n3_; clear n0_ n1_ n2_ n3_; clear hb hbox hg) | ((with_reducible refine gate_dst (N := 10) rfl ?_); (try (refine gate_guard (by rfl) ?_; dsimp only)); refine Kd.R_lit (Kd.int .u8) _ 5 ?hg (N := 10) ?hd (xs := ([] : List Int)) (inner := []) (ok := fun _ => True) (okp := fun _ => True) ?hr ?hp (fun _ hk => hk) trivial (Below.refl _ _) (Nat.le_refl _) (by simp) ?_; (case hd => rfl); (case hg => rfl); (case hr => first | (go_simp; done) | (go_simp; rfl)); (case hp => exact (Reps.none _ _)); intro v104 w6 ho7 hb hg_ hnew_; clear hg_ hnew_; (first | rw [← Ny103.out] at ho7 | (simp only [Int.reduceToNat] at ho7; rw [← Ny103.out] at ho7)); have n0_ := Aside0.mk (Kd.R_lower ho7 (below_size (by repeat (first | (with_reducible first | exact HB.out | apply below_alloc | apply pw_below_drewN | apply below_drew1 | refine below_set ?_ GE102.out) | exact HB.out)))); have n1_ := Aside0.mk (blk_below (g := gb102) (o := .cells #[.bool false, .string (⟨#[]⟩ : ByteArray)] 42 (0, 0)) (by (with_reducible repeat (first | refine blk_drewN ?_ _ | refine blk_drew ?_ | refine blk_alloc ?_ _)); exact BK102.out) hb); have n2_ := Aside0.mk (below_step (by repeat (first | (with_reducible first | exact HB.out | apply below_alloc | apply pw_below_drewN | apply below_drew1 | refine below_set ?_ GE102.out) | exact HB.out)) hb); clear BK102; clear HB; have HO105 := n0_; have BK102 := n1_; have HB := n2_; clear n0_ n1_ n2_; clear hb ho7))
    go_loopg [3, 4] k (fun kq v3 v4 w' => ∃ (x3_1 : List Int) (x4_1 : Int) (x103000_1 : Bool) (x103001_1 : ByteArray), v4 = .int .i64 x4_1 ∧ Aside0 (spec_Unquote.l0 kq a0 x3_1 x4_1 = some (r1, r2)) ∧ Aside0 (kq ≤ k) ∧ Aside0 (Kd.R (Kd.int .u8) 5 w' w.heap.size (fun _ => True) v3 x3_1) ∧ Aside0 (w'.heap[gb102]? = some (.cells #[.bool x103000_1, .string x103001_1] 42 (0, 0))) ∧ Aside0 (Below w.heap.size w w'))
    case atStart => exact ⟨(y103), (0), (false), ((⟨#[]⟩ : ByteArray)), (by first | rfl | (simp; done) | (simp [*]; done)), H', ⟨Nat.le_refl _⟩, ⟨by (with_reducible repeat (first | apply Kd.R_alloc | apply Kd.R_drewN | apply Kd.R_drew)); exact HO105.out⟩, ⟨by (with_reducible repeat (first | refine blk_drewN ?_ _ | refine blk_drew ?_ | refine blk_alloc ?_ _)); exact BK102.out⟩, ⟨by repeat (first | (with_reducible first | exact HB.out | apply below_alloc | apply pw_below_drewN | apply below_drew1 | refine below_set ?_ GE102.out) | exact HB.out)⟩⟩
    case round =>
      clear H'
      try clear c2
      try clear c2b0
      try clear c2b1
      try clear p2
      try clear hcz4_0
      try clear hcz4_1
      try clear hfz4_0
      try clear hfz4_1
      obtain ⟨x3_1, x4_1, x103000_1, x103001_1, rfl, HA, HK1, HO_3, BK102, HB⟩ := hrel
      cases gk with
      | zero => exact absurd HA.out (by simp [spec_Unquote.l0])
      | succ k1 =>
        have H := HA.out
        clear HA
        simp only [spec_Unquote.l0] at H
        by_cases c8 : x4_1 < (a0.size : Int)
        · rw [if_pos c8] at H
          have c8b0 : decide (x4_1 < (a0.size : Int)) = true := decide_eq_true c8
          clear c8
          by_cases c9 : 0 ≤ x4_1
          · rw [if_pos c9] at H
            have c9b0 : decide (0 ≤ x4_1) = true := decide_eq_true c9
            clear c9
            replace H := Option.bind_eq_some_iff.mp H
            obtain ⟨t106, A110, H⟩ := H
            replace H : (if t106 = true then (if x3_1.length < 140737488355328 then (spec_Unquote.l0 k1 a0 (x3_1 ++ [bt a0 x4_1]) (wrap64 (x4_1 + 1))) else (none)) else (if (bt a0 x4_1) = 37 then (spec_Unquote.j1 k1 a0 x3_1 x4_1 (decide ((wrap64 (x4_1 + 2)) ≥ (a0.size : Int)))) else (spec_Unquote.j1 k1 a0 x3_1 x4_1 true))) = some (r1, r2) := H
            have A11 := Aside0.mk A110
            clear A110
            by_cases c12 : t106 = true
            · subst c12
              have H1 : (if x3_1.length < 140737488355328 then (spec_Unquote.l0 k1 a0 (x3_1 ++ [bt a0 x4_1]) (wrap64 (x4_1 + 1))) else (none)) = some (r1, r2) := by rw [if_pos rfl] at H; exact H
              clear H
              have H := H1
              clear H1
              by_cases c14 : x3_1.length < 140737488355328
              · rw [if_pos c14] at H
                have LMc14 := Aside0.mk c14
                clear c14
                obtain ⟨y107, hy107⟩ : ∃ y_ : List Int, y_ = (x3_1 ++ [bt a0 x4_1]) := ⟨_, rfl⟩
                replace H : (spec_Unquote.l0 k1 a0 y107 (wrap64 (x4_1 + 1))) = some (r1, r2) := by first | (rw [hy107]; with_reducible exact H) | (have H2_ := (Option.bind_some _ _).symm.trans H; rw [hy107]; with_reducible exact H2_) | (have H2_ := (Option.bind_some _ _).symm.trans H; with_reducible exact H2_) | with_reducible exact H | (rw [hy107]; exact H) | exact H
                have Ny107 := Aside0.mk hy107
                clear hy107
                have H' := Aside0.mk H
                clear H
                have p10 : 0 ≤ (x4_1 : Int) := of_decide_eq_true (by first | (with_reducible assumption) | assumption)
                have q10 : x4_1 < (a0.size : Int) := of_decide_eq_true (by first | (with_reducible assumption) | assumption)
                have hx10 := bt_at a0 x4_1
                replace p10 := eq_true p10
                replace q10 := eq_true q10
                go_wp2_with (first | ((with_reducible refine gate_callee (f := 38) rfl ?_); refine goesL_ (some 20) rfl rfl Try.func38 (by kernel_rfl) rfl #[.int .u8 (bt a0 x4_1)] rfl (by (try simp only [List.map_toArray, List.map_cons, List.map_nil]); first | done | rfl | (simp only [List.length_drop, List.length_take]; rfl)) ?_; (with_reducible refine (spec_l14Plain.calls (bt a0 x4_1) true _ A11.out).mono ?_); rintro e w' ⟨rfl, ⟨nd, rfl⟩⟩; refine ⟨_, rfl, ?_⟩; have p13 : 0 ≤ (x4_1 : Int) := of_decide_eq_true (by first | (with_reducible assumption) | assumption); have q13 : x4_1 < (a0.size : Int) := of_decide_eq_true (by first | (with_reducible assumption) | assumption); have hx13 := bt_at a0 x4_1; replace p13 := eq_true p13; replace q13 := eq_true q13) | ((with_reducible refine gate_builtin (b := .append) (xs := #[.tmp 21, .tmp 25]) rfl ?_); (try (refine gate_guard (by rfl) ?_; dsimp only)); at_builtin; refine Kd.R_append (Kd.int .u8) (w0 := w) w.heap.size rfl (.tmp 21) (.tmp 25) 22 5 (.int .u8 0) 1 rfl Try.underlying22 info5 rfl (by decide) (by omega) u3 x3_1 (bt a0 x4_1) [.int .u8 (bt a0 x4_1)] (fun _ => True) (fun _ => False) rfl rfl ?aP (fun _ hk => hk.elim) ?aF ?aO ?aB ?aS ?aL ?_; (case aP => exact rfl); (case aB => exact (by repeat (first | (with_reducible first | exact HB.out | apply below_alloc | apply pw_below_drewN | apply below_drew1 | refine below_set ?_ GE102.out) | exact HB.out))); (case aF => exact (fun _ _ => trivial)); (case aO => exact (by (with_reducible repeat (first | apply Kd.R_alloc | apply Kd.R_drewN | apply Kd.R_drew)); exact HO_3.out)); (case aS => exact (below_size (by repeat (first | (with_reducible first | exact HB.out | apply below_alloc | apply pw_below_drewN | apply below_drew1 | refine below_set ?_ GE102.out) | exact HB.out)))); (case aL => have := LMc14.out; omega); intro v108 w15 ho hb hg hat; rw [← Ny107.out] at ho; have n0_ := Aside0.mk (blk_grown (g := gb102) (o := .cells #[.bool x103000_1, .string x103001_1] 42 (0, 0)) (by (with_reducible repeat (first | refine blk_drewN ?_ _ | refine blk_drew ?_ | refine blk_alloc ?_ _)); exact BK102.out) hg (Kd.R_ne HO_3.out BK102.out (by decide))); have n1_ := Aside0.mk (hb); have n2_ := Aside0.mk (ho); clear BK102; clear HB; clear HO_3; have BK102 := n0_; have HB := n1_; have HO109 := n2_; clear n0_ n1_ n2_; clear ho hb hg hat))
                go_roundg k1
                case measure => have := HK1.out; omega
                case rel => exact ⟨(y107), (wrap64 (x4_1 + 1)), (x103000_1), (x103001_1), (by first | rfl | (simp; done) | (simp [*]; done)), H', ⟨by have := HK1.out; omega⟩, ⟨by (with_reducible repeat (first | apply Kd.R_alloc | apply Kd.R_drewN | apply Kd.R_drew)); exact HO109.out⟩, ⟨by (with_reducible repeat (first | refine blk_drewN ?_ _ | refine blk_drew ?_ | refine blk_alloc ?_ _)); exact BK102.out⟩, ⟨by repeat (first | (with_reducible first | exact HB.out | apply below_alloc | apply pw_below_drewN | apply below_drew1 | refine below_set ?_ GE102.out) | exact HB.out)⟩⟩
              · rw [if_neg c14] at H
                exact absurd H (by simp)
            · replace c12 := Bool.eq_false_iff.mpr c12
              subst c12
              have H1 : (if (bt a0 x4_1) = 37 then (spec_Unquote.j1 k1 a0 x3_1 x4_1 (decide ((wrap64 (x4_1 + 2)) ≥ (a0.size : Int)))) else (spec_Unquote.j1 k1 a0 x3_1 x4_1 true)) = some (r1, r2) := by rw [if_neg (show ¬ (false = true) by decide)] at H; exact H
              clear H
              have H := H1
              clear H1
              have HC16 := Aside0.mk H
              clear H
              have p10 : 0 ≤ (x4_1 : Int) := of_decide_eq_true (by first | (with_reducible assumption) | assumption)
              have q10 : x4_1 < (a0.size : Int) := of_decide_eq_true (by first | (with_reducible assumption) | assumption)
              have hx10 := bt_at a0 x4_1
              replace p10 := eq_true p10
              replace q10 := eq_true q10
              go_upto_region 9 with (first | ((with_reducible refine gate_callee (f := 38) rfl ?_); refine goesL_ (some 20) rfl rfl Try.func38 (by kernel_rfl) rfl #[.int .u8 (bt a0 x4_1)] rfl (by (try simp only [List.map_toArray, List.map_cons, List.map_nil]); first | done | rfl | (simp only [List.length_drop, List.length_take]; rfl)) ?_; (with_reducible refine (spec_l14Plain.calls (bt a0 x4_1) false _ A11.out).mono ?_); rintro e w' ⟨rfl, ⟨nd, rfl⟩⟩; refine ⟨_, rfl, ?_⟩))
              (try simp only [Act.put, List.setIfInBounds_toArray, List.set_cons_zero, List.set_cons_succ])
              go_cut [37] (fun v37 wc => ∃ (kq : Nat) (x37_15 : Bool), v37 = .bool x37_15 ∧ Aside0 (spec_Unquote.j1 kq a0 x3_1 x4_1 x37_15 = some (r1, r2)) ∧ Aside0 (kq ≤ k1) ∧ Aside0 (Kd.R (Kd.int .u8) 5 wc w.heap.size (fun _ => True) u3 x3_1) ∧ Aside0 (wc.heap[gb102]? = some (.cells #[.bool x103000_1, .string x103001_1] 42 (0, 0))) ∧ Aside0 (Below w.heap.size w wc))
              case first =>
                have H := HC16.out
                clear HC16
                by_cases c18 : (bt a0 x4_1) = 37
                · rw [if_pos c18] at H
                  have c18b0 : ((bt a0 x4_1) == 37) = true := beq_iff_eq.mpr c18
                  have c18b1 : ((bt a0 x4_1) != 37) = false := bne_eq_false_iff_eq.mpr c18
                  clear c18
                  (first | rw [c18b0] | (simp only [i64_w, i32_w]; rw [c18b0]) | skip)
                  have H' := Aside0.mk H
                  clear H
                  have p17 : 0 ≤ (x4_1 : Int) := of_decide_eq_true (by first | (with_reducible assumption) | assumption)
                  have q17 : x4_1 < (a0.size : Int) := of_decide_eq_true (by first | (with_reducible assumption) | assumption)
                  have hx17 := bt_at a0 x4_1
                  replace p17 := eq_true p17
                  replace q17 := eq_true q17
                  go_wp2
                  go_meet
                  case rel => exact ⟨_, (decide ((wrap64 (x4_1 + 2)) ≥ (a0.size : Int))), (by first | rfl | (simp; done) | (simp [*]; done)), H', ⟨by have := HK1.out; first | omega | exact Nat.le_refl _⟩, ⟨by (with_reducible repeat (first | apply Kd.R_alloc | apply Kd.R_drewN | apply Kd.R_drew)); exact HO_3.out⟩, ⟨by (with_reducible repeat (first | refine blk_drewN ?_ _ | refine blk_drew ?_ | refine blk_alloc ?_ _)); exact BK102.out⟩, ⟨by repeat (first | (with_reducible first | exact HB.out | apply below_alloc | apply pw_below_drewN | apply below_drew1 | refine below_set ?_ GE102.out) | exact HB.out)⟩⟩
                · rw [if_neg c18] at H
                  have c18b0 : ((bt a0 x4_1) == 37) = false := beq_eq_false_iff_ne.mpr c18
                  have c18b1 : ((bt a0 x4_1) != 37) = true := bne_iff_ne.mpr c18
                  (first | rw [c18b0] | (simp only [i64_w, i32_w]; rw [c18b0]) | skip)
                  have H' := Aside0.mk H
                  clear H
                  have p17 : 0 ≤ (x4_1 : Int) := of_decide_eq_true (by first | (with_reducible assumption) | assumption)
                  have q17 : x4_1 < (a0.size : Int) := of_decide_eq_true (by first | (with_reducible assumption) | assumption)
                  have hx17 := bt_at a0 x4_1
                  replace p17 := eq_true p17
                  replace q17 := eq_true q17
                  go_wp2
                  go_meet
                  case rel => exact ⟨_, (true), (by first | rfl | (simp; done) | (simp [*]; done)), H', ⟨by have := HK1.out; first | omega | exact Nat.le_refl _⟩, ⟨by (with_reducible repeat (first | apply Kd.R_alloc | apply Kd.R_drewN | apply Kd.R_drew)); exact HO_3.out⟩, ⟨by (with_reducible repeat (first | refine blk_drewN ?_ _ | refine blk_drew ?_ | refine blk_alloc ?_ _)); exact BK102.out⟩, ⟨by repeat (first | (with_reducible first | exact HB.out | apply below_alloc | apply pw_below_drewN | apply below_drew1 | refine below_set ?_ GE102.out) | exact HB.out)⟩⟩
              case rest =>
                clear HC16
                try clear c1
                try clear p1
                try clear q1
                try clear hx1
                try clear c2
                try clear c2b0
                try clear c2b1
                try clear p2
                try clear c3
                try clear p6
                try clear c8
                try clear c8b0
                try clear c9
                try clear c9b0
                try clear p10
                try clear q10
                try clear hx10
                try clear c12
                try clear p13
                try clear q13
                try clear hx13
                try clear c14
                try clear p17
                try clear q17
                try clear hx17
                try clear c18
                try clear c18b0
                try clear c18b1
                try clear hcz4_0
                try clear hcz4_1
                try clear hfz4_0
                try clear hfz4_1
                try clear p10
                try clear p13
                try clear p17
                try clear p2
                try clear q10
                try clear q13
                try clear q17
                obtain ⟨kq, x37_15, rfl, HA, HJ15, HO_3, BK102, HB⟩ := hcut
                cases kq with
                | zero => exact absurd HA.out (by simp [spec_Unquote.j1])
                | succ kj15 =>
                  have H := HA.out
                  clear HA
                  simp only [spec_Unquote.j1] at H
                  by_cases c19 : x37_15 = true
                  · subst c19
                    have H1 : (some (false, (⟨#[]⟩ : ByteArray))) = some (r1, r2) := by rw [if_pos rfl] at H; exact H
                    clear H
                    have H := H1
                    clear H1
                    simp only [Option.some.injEq, Prod.mk.injEq] at H
                    obtain ⟨rfl, rfl⟩ := H
                    have hcz20_0 : wc.cell? ⟨gb102, 0, none⟩ = some (.bool x103000_1) := (blk_cell BK102.out 0).trans rfl
                    have hcz20_1 : wc.cell? ⟨gb102, 1, none⟩ = some (.string x103001_1) := (blk_cell BK102.out 1).trans rfl
                    have hfz20_0 := blk_frozen BK102.out 0
                    have hfz20_1 := blk_frozen BK102.out 1
                    go_wp2
                    refine bodyPost_ret (results_cell_row rfl _ _ gb102 42 #[.bool false, .string (⟨#[]⟩ : ByteArray)] (0, 0) _ rfl (by (with_reducible repeat (first | refine blk_drewN ?_ _ | refine blk_drew ?_ | refine blk_alloc ?_ _)); refine blk_put (cs := #[.bool false, .string x103001_1]) ?_ 1 _ rfl; (with_reducible repeat (first | refine blk_drewN ?_ _ | refine blk_drew ?_ | refine blk_alloc ?_ _)); refine blk_put (cs := #[.bool x103000_1, .string x103001_1]) ?_ 0 _ rfl; (with_reducible repeat (first | refine blk_drewN ?_ _ | refine blk_drew ?_ | refine blk_alloc ?_ _)); exact BK102.out) Try.underlying42 rfl (by kernel_rfl)) rfl ?_
                    exact ⟨by first | rfl | (simp [errW_none, errW_some] <;> rfl) | (simp [*, errW_none, errW_some] <;> rfl), by repeat (first | (with_reducible first | exact HB.out | apply below_alloc | apply pw_below_drewN | apply below_drew1 | refine below_set ?_ GE102.out) | exact HB.out)⟩
                  · replace c19 := Bool.eq_false_iff.mpr c19
                    subst c19
                    have H1 : (if 0 ≤ (wrap64 (x4_1 + 1)) then (if (wrap64 (x4_1 + 1)) < (a0.size : Int) then ((spec_l14Digit.f kj15 (bt a0 (wrap64 (x4_1 + 1)))).bind fun t110 => (if 0 ≤ (wrap64 (x4_1 + 2)) then (if (wrap64 (x4_1 + 2)) < (a0.size : Int) then ((spec_l14Digit.f kj15 (bt a0 (wrap64 (x4_1 + 2)))).bind fun t111 => (if t110 < 0 then (some (false, (⟨#[]⟩ : ByteArray))) else (if t111 < 0 then (some (false, (⟨#[]⟩ : ByteArray))) else ((spec_l14Plain.f ((wrap64 ((wrap64 (t110 * 16)) + t111)) % 256)).bind fun t112 => (if t112 = true then (some (false, (⟨#[]⟩ : ByteArray))) else (if x3_1.length < 140737488355328 then (spec_Unquote.l0 kj15 a0 (x3_1 ++ [(wrap64 ((wrap64 (t110 * 16)) + t111)) % 256]) (wrap64 ((wrap64 (x4_1 + 2)) + 1))) else (none))))))) else (none)) else (none))) else (none)) else (none)) = some (r1, r2) := by rw [if_neg (show ¬ (false = true) by decide)] at H; exact H
                    clear H
                    have H := H1
                    clear H1
                    obtain ⟨ji21, hji21⟩ : ∃ j_ : Int, (wrap64 (x4_1 + 1)) = j_ := ⟨_, rfl⟩
                    replace H : (if 0 ≤ (ji21) then (if (ji21) < (a0.size : Int) then ((spec_l14Digit.f kj15 (bt a0 (ji21))).bind fun t110 => (if 0 ≤ (wrap64 (x4_1 + 2)) then (if (wrap64 (x4_1 + 2)) < (a0.size : Int) then ((spec_l14Digit.f kj15 (bt a0 (wrap64 (x4_1 + 2)))).bind fun t111 => (if t110 < 0 then (some (false, (⟨#[]⟩ : ByteArray))) else (if t111 < 0 then (some (false, (⟨#[]⟩ : ByteArray))) else ((spec_l14Plain.f ((wrap64 ((wrap64 (t110 * 16)) + t111)) % 256)).bind fun t112 => (if t112 = true then (some (false, (⟨#[]⟩ : ByteArray))) else (if x3_1.length < 140737488355328 then (spec_Unquote.l0 kj15 a0 (x3_1 ++ [(wrap64 ((wrap64 (t110 * 16)) + t111)) % 256]) (wrap64 ((wrap64 (x4_1 + 2)) + 1))) else (none))))))) else (none)) else (none))) else (none)) else (none)) = some (r1, r2) := by first | (rw [hji21] at H; exact H) | (simp only [hji21] at H ⊢; exact H)
                    have hji21w : (IntKind.i64.wrap (x4_1 + 1)) = ji21 := (i64_w _).trans hji21
                    by_cases c22 : 0 ≤ (ji21)
                    · rw [if_pos c22] at H
                      have c22b0 : decide (0 ≤ (ji21)) = true := decide_eq_true c22
                      clear c22
                      by_cases c23 : (ji21) < (a0.size : Int)
                      · rw [if_pos c23] at H
                        have c23b0 : decide ((ji21) < (a0.size : Int)) = true := decide_eq_true c23
                        clear c23
                        replace H := Option.bind_eq_some_iff.mp H
                        obtain ⟨t110, A250, H⟩ := H
                        replace H : (if 0 ≤ (wrap64 (x4_1 + 2)) then (if (wrap64 (x4_1 + 2)) < (a0.size : Int) then ((spec_l14Digit.f kj15 (bt a0 (wrap64 (x4_1 + 2)))).bind fun t111 => (if t110 < 0 then (some (false, (⟨#[]⟩ : ByteArray))) else (if t111 < 0 then (some (false, (⟨#[]⟩ : ByteArray))) else ((spec_l14Plain.f ((wrap64 ((wrap64 (t110 * 16)) + t111)) % 256)).bind fun t112 => (if t112 = true then (some (false, (⟨#[]⟩ : ByteArray))) else (if x3_1.length < 140737488355328 then (spec_Unquote.l0 kj15 a0 (x3_1 ++ [(wrap64 ((wrap64 (t110 * 16)) + t111)) % 256]) (wrap64 ((wrap64 (x4_1 + 2)) + 1))) else (none))))))) else (none)) else (none)) = some (r1, r2) := H
                        have A25 := Aside0.mk A250
                        clear A250
                        obtain ⟨ji26, hji26⟩ : ∃ j_ : Int, (wrap64 (x4_1 + 2)) = j_ := ⟨_, rfl⟩
                        replace H : (if 0 ≤ (ji26) then (if (ji26) < (a0.size : Int) then ((spec_l14Digit.f kj15 (bt a0 (ji26))).bind fun t111 => (if t110 < 0 then (some (false, (⟨#[]⟩ : ByteArray))) else (if t111 < 0 then (some (false, (⟨#[]⟩ : ByteArray))) else ((spec_l14Plain.f ((wrap64 ((wrap64 (t110 * 16)) + t111)) % 256)).bind fun t112 => (if t112 = true then (some (false, (⟨#[]⟩ : ByteArray))) else (if x3_1.length < 140737488355328 then (spec_Unquote.l0 kj15 a0 (x3_1 ++ [(wrap64 ((wrap64 (t110 * 16)) + t111)) % 256]) (wrap64 ((ji26) + 1))) else (none))))))) else (none)) else (none)) = some (r1, r2) := by first | (rw [hji26] at H; exact H) | (simp only [hji26] at H ⊢; exact H)
                        (try rw [hji26] at A25)
                        have hji26w : (IntKind.i64.wrap (x4_1 + 2)) = ji26 := (i64_w _).trans hji26
                        by_cases c27 : 0 ≤ (ji26)
                        · rw [if_pos c27] at H
                          have c27b0 : decide (0 ≤ (ji26)) = true := decide_eq_true c27
                          clear c27
                          by_cases c28 : (ji26) < (a0.size : Int)
                          · rw [if_pos c28] at H
                            have c28b0 : decide ((ji26) < (a0.size : Int)) = true := decide_eq_true c28
                            clear c28
                            replace H := Option.bind_eq_some_iff.mp H
                            obtain ⟨t111, A300, H⟩ := H
                            replace H : (if t110 < 0 then (some (false, (⟨#[]⟩ : ByteArray))) else (if t111 < 0 then (some (false, (⟨#[]⟩ : ByteArray))) else ((spec_l14Plain.f ((wrap64 ((wrap64 (t110 * 16)) + t111)) % 256)).bind fun t112 => (if t112 = true then (some (false, (⟨#[]⟩ : ByteArray))) else (if x3_1.length < 140737488355328 then (spec_Unquote.l0 kj15 a0 (x3_1 ++ [(wrap64 ((wrap64 (t110 * 16)) + t111)) % 256]) (wrap64 ((ji26) + 1))) else (none)))))) = some (r1, r2) := H
                            have A30 := Aside0.mk A300
                            clear A300
                            by_cases c31 : t110 < 0
                            · rw [if_pos c31] at H
                              have c31b0 : decide (t110 < 0) = true := decide_eq_true c31
                              clear c31
                              simp only [Option.some.injEq, Prod.mk.injEq] at H
                              obtain ⟨rfl, rfl⟩ := H
                              have p24 : 0 ≤ ((ji21) : Int) := of_decide_eq_true (by first | (with_reducible assumption) | assumption)
                              have q24 : (ji21) < (a0.size : Int) := of_decide_eq_true (by first | (with_reducible assumption) | assumption)
                              have hx24 := bt_at a0 (ji21)
                              replace p24 := eq_true p24
                              replace q24 := eq_true q24
                              go_wp2_with (first | ((with_reducible refine gate_callee (f := 43) rfl ?_); refine goesL_ (some 43) rfl rfl Try.func43 (by kernel_rfl) rfl #[.int .u8 (bt a0 (ji21))] rfl (by (try simp only [List.map_toArray, List.map_cons, List.map_nil]); first | done | (simp only [hji21]; rfl) | rfl | (simp only [List.length_drop, List.length_take]; rfl)) ?_; (with_reducible refine (spec_l14Digit.calls kj15 (bt a0 (ji21)) t110 _ A25.out).mono ?_); rintro e w' ⟨rfl, ⟨nd, rfl⟩⟩; refine ⟨_, rfl, ?_⟩; (try (rw [drewN_self wc]; generalize hq_ : World.drewN wc _ = wc; have n0_ : Aside0 (Kd.R (Kd.int .u8) 5 wc w.heap.size (fun _ => True) u3 x3_1) := ⟨by rw [← hq_]; exact (by (with_reducible repeat (first | apply Kd.R_alloc | apply Kd.R_drewN | apply Kd.R_drew)); exact HO_3.out)⟩; have n1_ : Aside0 (wc.heap[gb102]? = some (.cells #[.bool x103000_1, .string x103001_1] 42 (0, 0))) := ⟨by rw [← hq_]; exact (by (with_reducible repeat (first | refine blk_drewN ?_ _ | refine blk_drew ?_ | refine blk_alloc ?_ _)); exact BK102.out)⟩; have n2_ : Aside0 (Below w.heap.size w wc) := ⟨by rw [← hq_]; exact (by repeat (first | (with_reducible first | exact HB.out | apply below_alloc | apply pw_below_drewN | apply below_drew1 | refine below_set ?_ GE102.out) | exact HB.out))⟩; clear HO_3 BK102 HB hq_; have HO_3 := n0_; have BK102 := n1_; have HB := n2_; clear n0_ n1_ n2_)); have p29 : 0 ≤ ((ji26) : Int) := of_decide_eq_true (by first | (with_reducible assumption) | assumption); have q29 : (ji26) < (a0.size : Int) := of_decide_eq_true (by first | (with_reducible assumption) | assumption); have hx29 := bt_at a0 (ji26); replace p29 := eq_true p29; replace q29 := eq_true q29) | ((with_reducible refine gate_callee (f := 43) rfl ?_); refine goesL_ (some 48) rfl rfl Try.func43 (by kernel_rfl) rfl #[.int .u8 (bt a0 (ji26))] rfl (by (try simp only [List.map_toArray, List.map_cons, List.map_nil]); first | done | (simp only [hji26]; rfl) | rfl | (simp only [List.length_drop, List.length_take]; rfl)) ?_; (with_reducible refine (spec_l14Digit.calls kj15 (bt a0 (ji26)) t111 _ A30.out).mono ?_); rintro e w' ⟨rfl, ⟨nd, rfl⟩⟩; refine ⟨_, rfl, ?_⟩; (try (rw [drewN_self wc]; generalize hq_ : World.drewN wc _ = wc; have n0_ : Aside0 (Kd.R (Kd.int .u8) 5 wc w.heap.size (fun _ => True) u3 x3_1) := ⟨by rw [← hq_]; exact (by (with_reducible repeat (first | apply Kd.R_alloc | apply Kd.R_drewN | apply Kd.R_drew)); exact HO_3.out)⟩; have n1_ : Aside0 (wc.heap[gb102]? = some (.cells #[.bool x103000_1, .string x103001_1] 42 (0, 0))) := ⟨by rw [← hq_]; exact (by (with_reducible repeat (first | refine blk_drewN ?_ _ | refine blk_drew ?_ | refine blk_alloc ?_ _)); exact BK102.out)⟩; have n2_ : Aside0 (Below w.heap.size w wc) := ⟨by rw [← hq_]; exact (by repeat (first | (with_reducible first | exact HB.out | apply below_alloc | apply pw_below_drewN | apply below_drew1 | refine below_set ?_ GE102.out) | exact HB.out))⟩; clear HO_3 BK102 HB hq_; have HO_3 := n0_; have BK102 := n1_; have HB := n2_; clear n0_ n1_ n2_)); have hcz32_0 : wc.cell? ⟨gb102, 0, none⟩ = some (.bool x103000_1) := (blk_cell BK102.out 0).trans rfl; have hcz32_1 : wc.cell? ⟨gb102, 1, none⟩ = some (.string x103001_1) := (blk_cell BK102.out 1).trans rfl; have hfz32_0 := blk_frozen BK102.out 0; have hfz32_1 := blk_frozen BK102.out 1))
                              refine bodyPost_ret (results_cell_row rfl _ _ gb102 42 #[.bool false, .string (⟨#[]⟩ : ByteArray)] (0, 0) _ rfl (by (with_reducible repeat (first | refine blk_drewN ?_ _ | refine blk_drew ?_ | refine blk_alloc ?_ _)); refine blk_put (cs := #[.bool false, .string x103001_1]) ?_ 1 _ rfl; (with_reducible repeat (first | refine blk_drewN ?_ _ | refine blk_drew ?_ | refine blk_alloc ?_ _)); refine blk_put (cs := #[.bool x103000_1, .string x103001_1]) ?_ 0 _ rfl; (with_reducible repeat (first | refine blk_drewN ?_ _ | refine blk_drew ?_ | refine blk_alloc ?_ _)); exact BK102.out) Try.underlying42 rfl (by kernel_rfl)) rfl ?_
                              exact ⟨by first | rfl | (simp [errW_none, errW_some] <;> rfl) | (simp only [← hji21, ← hji26]; first | rfl | (simp [errW_none, errW_some] <;> rfl)) | (simp [*, errW_none, errW_some] <;> rfl), by repeat (first | (with_reducible first | exact HB.out | apply below_alloc | apply pw_below_drewN | apply below_drew1 | refine below_set ?_ GE102.out) | exact HB.out)⟩
                            · rw [if_neg c31] at H
                              have c31b0 : decide (t110 < 0) = false := decide_eq_false c31
                              clear c31
                              by_cases c33 : t111 < 0
                              · rw [if_pos c33] at H
                                have c33b0 : decide (t111 < 0) = true := decide_eq_true c33
                                clear c33
                                simp only [Option.some.injEq, Prod.mk.injEq] at H
                                obtain ⟨rfl, rfl⟩ := H
                                have p24 : 0 ≤ ((ji21) : Int) := of_decide_eq_true (by first | (with_reducible assumption) | assumption)
                                have q24 : (ji21) < (a0.size : Int) := of_decide_eq_true (by first | (with_reducible assumption) | assumption)
                                have hx24 := bt_at a0 (ji21)
                                replace p24 := eq_true p24
                                replace q24 := eq_true q24
                                go_wp2_with (first | ((with_reducible refine gate_callee (f := 43) rfl ?_); refine goesL_ (some 43) rfl rfl Try.func43 (by kernel_rfl) rfl #[.int .u8 (bt a0 (ji21))] rfl (by (try simp only [List.map_toArray, List.map_cons, List.map_nil]); first | done | (simp only [hji21]; rfl) | rfl | (simp only [List.length_drop, List.length_take]; rfl)) ?_; (with_reducible refine (spec_l14Digit.calls kj15 (bt a0 (ji21)) t110 _ A25.out).mono ?_); rintro e w' ⟨rfl, ⟨nd, rfl⟩⟩; refine ⟨_, rfl, ?_⟩; (try (rw [drewN_self wc]; generalize hq_ : World.drewN wc _ = wc; have n0_ : Aside0 (Kd.R (Kd.int .u8) 5 wc w.heap.size (fun _ => True) u3 x3_1) := ⟨by rw [← hq_]; exact (by (with_reducible repeat (first | apply Kd.R_alloc | apply Kd.R_drewN | apply Kd.R_drew)); exact HO_3.out)⟩; have n1_ : Aside0 (wc.heap[gb102]? = some (.cells #[.bool x103000_1, .string x103001_1] 42 (0, 0))) := ⟨by rw [← hq_]; exact (by (with_reducible repeat (first | refine blk_drewN ?_ _ | refine blk_drew ?_ | refine blk_alloc ?_ _)); exact BK102.out)⟩; have n2_ : Aside0 (Below w.heap.size w wc) := ⟨by rw [← hq_]; exact (by repeat (first | (with_reducible first | exact HB.out | apply below_alloc | apply pw_below_drewN | apply below_drew1 | refine below_set ?_ GE102.out) | exact HB.out))⟩; clear HO_3 BK102 HB hq_; have HO_3 := n0_; have BK102 := n1_; have HB := n2_; clear n0_ n1_ n2_)); have p29 : 0 ≤ ((ji26) : Int) := of_decide_eq_true (by first | (with_reducible assumption) | assumption); have q29 : (ji26) < (a0.size : Int) := of_decide_eq_true (by first | (with_reducible assumption) | assumption); have hx29 := bt_at a0 (ji26); replace p29 := eq_true p29; replace q29 := eq_true q29) | ((with_reducible refine gate_callee (f := 43) rfl ?_); refine goesL_ (some 48) rfl rfl Try.func43 (by kernel_rfl) rfl #[.int .u8 (bt a0 (ji26))] rfl (by (try simp only [List.map_toArray, List.map_cons, List.map_nil]); first | done | (simp only [hji26]; rfl) | rfl | (simp only [List.length_drop, List.length_take]; rfl)) ?_; (with_reducible refine (spec_l14Digit.calls kj15 (bt a0 (ji26)) t111 _ A30.out).mono ?_); rintro e w' ⟨rfl, ⟨nd, rfl⟩⟩; refine ⟨_, rfl, ?_⟩; (try (rw [drewN_self wc]; generalize hq_ : World.drewN wc _ = wc; have n0_ : Aside0 (Kd.R (Kd.int .u8) 5 wc w.heap.size (fun _ => True) u3 x3_1) := ⟨by rw [← hq_]; exact (by (with_reducible repeat (first | apply Kd.R_alloc | apply Kd.R_drewN | apply Kd.R_drew)); exact HO_3.out)⟩; have n1_ : Aside0 (wc.heap[gb102]? = some (.cells #[.bool x103000_1, .string x103001_1] 42 (0, 0))) := ⟨by rw [← hq_]; exact (by (with_reducible repeat (first | refine blk_drewN ?_ _ | refine blk_drew ?_ | refine blk_alloc ?_ _)); exact BK102.out)⟩; have n2_ : Aside0 (Below w.heap.size w wc) := ⟨by rw [← hq_]; exact (by repeat (first | (with_reducible first | exact HB.out | apply below_alloc | apply pw_below_drewN | apply below_drew1 | refine below_set ?_ GE102.out) | exact HB.out))⟩; clear HO_3 BK102 HB hq_; have HO_3 := n0_; have BK102 := n1_; have HB := n2_; clear n0_ n1_ n2_)); have hcz34_0 : wc.cell? ⟨gb102, 0, none⟩ = some (.bool x103000_1) := (blk_cell BK102.out 0).trans rfl; have hcz34_1 : wc.cell? ⟨gb102, 1, none⟩ = some (.string x103001_1) := (blk_cell BK102.out 1).trans rfl; have hfz34_0 := blk_frozen BK102.out 0; have hfz34_1 := blk_frozen BK102.out 1))
                                refine bodyPost_ret (results_cell_row rfl _ _ gb102 42 #[.bool false, .string (⟨#[]⟩ : ByteArray)] (0, 0) _ rfl (by (with_reducible repeat (first | refine blk_drewN ?_ _ | refine blk_drew ?_ | refine blk_alloc ?_ _)); refine blk_put (cs := #[.bool false, .string x103001_1]) ?_ 1 _ rfl; (with_reducible repeat (first | refine blk_drewN ?_ _ | refine blk_drew ?_ | refine blk_alloc ?_ _)); refine blk_put (cs := #[.bool x103000_1, .string x103001_1]) ?_ 0 _ rfl; (with_reducible repeat (first | refine blk_drewN ?_ _ | refine blk_drew ?_ | refine blk_alloc ?_ _)); exact BK102.out) Try.underlying42 rfl (by kernel_rfl)) rfl ?_
                                exact ⟨by first | rfl | (simp [errW_none, errW_some] <;> rfl) | (simp only [← hji21, ← hji26]; first | rfl | (simp [errW_none, errW_some] <;> rfl)) | (simp [*, errW_none, errW_some] <;> rfl), by repeat (first | (with_reducible first | exact HB.out | apply below_alloc | apply pw_below_drewN | apply below_drew1 | refine below_set ?_ GE102.out) | exact HB.out)⟩
                              · rw [if_neg c33] at H
                                have c33b0 : decide (t111 < 0) = false := decide_eq_false c33
                                clear c33
                                replace H := Option.bind_eq_some_iff.mp H
                                obtain ⟨t112, A350, H⟩ := H
                                replace H : (if t112 = true then (some (false, (⟨#[]⟩ : ByteArray))) else (if x3_1.length < 140737488355328 then (spec_Unquote.l0 kj15 a0 (x3_1 ++ [(wrap64 ((wrap64 (t110 * 16)) + t111)) % 256]) (wrap64 ((ji26) + 1))) else (none))) = some (r1, r2) := H
                                have A35 := Aside0.mk A350
                                clear A350
                                by_cases c36 : t112 = true
                                · subst c36
                                  have H1 : (some (false, (⟨#[]⟩ : ByteArray))) = some (r1, r2) := by rw [if_pos rfl] at H; exact H
                                  clear H
                                  have H := H1
                                  clear H1
                                  simp only [Option.some.injEq, Prod.mk.injEq] at H
                                  obtain ⟨rfl, rfl⟩ := H
                                  have p24 : 0 ≤ ((ji21) : Int) := of_decide_eq_true (by first | (with_reducible assumption) | assumption)
                                  have q24 : (ji21) < (a0.size : Int) := of_decide_eq_true (by first | (with_reducible assumption) | assumption)
                                  have hx24 := bt_at a0 (ji21)
                                  replace p24 := eq_true p24
                                  replace q24 := eq_true q24
                                  go_wp2_with (first | ((with_reducible refine gate_callee (f := 43) rfl ?_); refine goesL_ (some 43) rfl rfl Try.func43 (by kernel_rfl) rfl #[.int .u8 (bt a0 (ji21))] rfl (by (try simp only [List.map_toArray, List.map_cons, List.map_nil]); first | done | (simp only [hji21]; rfl) | rfl | (simp only [List.length_drop, List.length_take]; rfl)) ?_; (with_reducible refine (spec_l14Digit.calls kj15 (bt a0 (ji21)) t110 _ A25.out).mono ?_); rintro e w' ⟨rfl, ⟨nd, rfl⟩⟩; refine ⟨_, rfl, ?_⟩; (try (rw [drewN_self wc]; generalize hq_ : World.drewN wc _ = wc; have n0_ : Aside0 (Kd.R (Kd.int .u8) 5 wc w.heap.size (fun _ => True) u3 x3_1) := ⟨by rw [← hq_]; exact (by (with_reducible repeat (first | apply Kd.R_alloc | apply Kd.R_drewN | apply Kd.R_drew)); exact HO_3.out)⟩; have n1_ : Aside0 (wc.heap[gb102]? = some (.cells #[.bool x103000_1, .string x103001_1] 42 (0, 0))) := ⟨by rw [← hq_]; exact (by (with_reducible repeat (first | refine blk_drewN ?_ _ | refine blk_drew ?_ | refine blk_alloc ?_ _)); exact BK102.out)⟩; have n2_ : Aside0 (Below w.heap.size w wc) := ⟨by rw [← hq_]; exact (by repeat (first | (with_reducible first | exact HB.out | apply below_alloc | apply pw_below_drewN | apply below_drew1 | refine below_set ?_ GE102.out) | exact HB.out))⟩; clear HO_3 BK102 HB hq_; have HO_3 := n0_; have BK102 := n1_; have HB := n2_; clear n0_ n1_ n2_)); have p29 : 0 ≤ ((ji26) : Int) := of_decide_eq_true (by first | (with_reducible assumption) | assumption); have q29 : (ji26) < (a0.size : Int) := of_decide_eq_true (by first | (with_reducible assumption) | assumption); have hx29 := bt_at a0 (ji26); replace p29 := eq_true p29; replace q29 := eq_true q29) | ((with_reducible refine gate_callee (f := 43) rfl ?_); refine goesL_ (some 48) rfl rfl Try.func43 (by kernel_rfl) rfl #[.int .u8 (bt a0 (ji26))] rfl (by (try simp only [List.map_toArray, List.map_cons, List.map_nil]); first | done | (simp only [hji26]; rfl) | rfl | (simp only [List.length_drop, List.length_take]; rfl)) ?_; (with_reducible refine (spec_l14Digit.calls kj15 (bt a0 (ji26)) t111 _ A30.out).mono ?_); rintro e w' ⟨rfl, ⟨nd, rfl⟩⟩; refine ⟨_, rfl, ?_⟩; (try (rw [drewN_self wc]; generalize hq_ : World.drewN wc _ = wc; have n0_ : Aside0 (Kd.R (Kd.int .u8) 5 wc w.heap.size (fun _ => True) u3 x3_1) := ⟨by rw [← hq_]; exact (by (with_reducible repeat (first | apply Kd.R_alloc | apply Kd.R_drewN | apply Kd.R_drew)); exact HO_3.out)⟩; have n1_ : Aside0 (wc.heap[gb102]? = some (.cells #[.bool x103000_1, .string x103001_1] 42 (0, 0))) := ⟨by rw [← hq_]; exact (by (with_reducible repeat (first | refine blk_drewN ?_ _ | refine blk_drew ?_ | refine blk_alloc ?_ _)); exact BK102.out)⟩; have n2_ : Aside0 (Below w.heap.size w wc) := ⟨by rw [← hq_]; exact (by repeat (first | (with_reducible first | exact HB.out | apply below_alloc | apply pw_below_drewN | apply below_drew1 | refine below_set ?_ GE102.out) | exact HB.out))⟩; clear HO_3 BK102 HB hq_; have HO_3 := n0_; have BK102 := n1_; have HB := n2_; clear n0_ n1_ n2_))) | (go_at_call 38; (with_reducible refine (spec_l14Plain.calls ((wrap64 ((wrap64 (t110 * 16)) + t111)) % 256) true _ A35.out).mono ?_); rintro e w' ⟨rfl, ⟨nd, rfl⟩⟩; (try (rw [drewN_self wc]; generalize hq_ : World.drewN wc _ = wc; have n0_ : Aside0 (Kd.R (Kd.int .u8) 5 wc w.heap.size (fun _ => True) u3 x3_1) := ⟨by rw [← hq_]; exact (by (with_reducible repeat (first | apply Kd.R_alloc | apply Kd.R_drewN | apply Kd.R_drew)); exact HO_3.out)⟩; have n1_ : Aside0 (wc.heap[gb102]? = some (.cells #[.bool x103000_1, .string x103001_1] 42 (0, 0))) := ⟨by rw [← hq_]; exact (by (with_reducible repeat (first | refine blk_drewN ?_ _ | refine blk_drew ?_ | refine blk_alloc ?_ _)); exact BK102.out)⟩; have n2_ : Aside0 (Below w.heap.size w wc) := ⟨by rw [← hq_]; exact (by repeat (first | (with_reducible first | exact HB.out | apply below_alloc | apply pw_below_drewN | apply below_drew1 | refine below_set ?_ GE102.out) | exact HB.out))⟩; clear HO_3 BK102 HB hq_; have HO_3 := n0_; have BK102 := n1_; have HB := n2_; clear n0_ n1_ n2_)); have hcz37_0 : wc.cell? ⟨gb102, 0, none⟩ = some (.bool x103000_1) := (blk_cell BK102.out 0).trans rfl; have hcz37_1 : wc.cell? ⟨gb102, 1, none⟩ = some (.string x103001_1) := (blk_cell BK102.out 1).trans rfl; have hfz37_0 := blk_frozen BK102.out 0; have hfz37_1 := blk_frozen BK102.out 1))
                                  refine bodyPost_ret (results_cell_row rfl _ _ gb102 42 #[.bool false, .string (⟨#[]⟩ : ByteArray)] (0, 0) _ rfl (by (with_reducible repeat (first | refine blk_drewN ?_ _ | refine blk_drew ?_ | refine blk_alloc ?_ _)); refine blk_put (cs := #[.bool false, .string x103001_1]) ?_ 1 _ rfl; (with_reducible repeat (first | refine blk_drewN ?_ _ | refine blk_drew ?_ | refine blk_alloc ?_ _)); refine blk_put (cs := #[.bool x103000_1, .string x103001_1]) ?_ 0 _ rfl; (with_reducible repeat (first | refine blk_drewN ?_ _ | refine blk_drew ?_ | refine blk_alloc ?_ _)); exact BK102.out) Try.underlying42 rfl (by kernel_rfl)) rfl ?_
                                  exact ⟨by first | rfl | (simp [errW_none, errW_some] <;> rfl) | (simp only [← hji21, ← hji26]; first | rfl | (simp [errW_none, errW_some] <;> rfl)) | (simp [*, errW_none, errW_some] <;> rfl), by repeat (first | (with_reducible first | exact HB.out | apply below_alloc | apply pw_below_drewN | apply below_drew1 | refine below_set ?_ GE102.out) | exact HB.out)⟩
                                · replace c36 := Bool.eq_false_iff.mpr c36
                                  subst c36
                                  have H1 : (if x3_1.length < 140737488355328 then (spec_Unquote.l0 kj15 a0 (x3_1 ++ [(wrap64 ((wrap64 (t110 * 16)) + t111)) % 256]) (wrap64 ((ji26) + 1))) else (none)) = some (r1, r2) := by rw [if_neg (show ¬ (false = true) by decide)] at H; exact H
                                  clear H
                                  have H := H1
                                  clear H1
                                  by_cases c38 : x3_1.length < 140737488355328
                                  · rw [if_pos c38] at H
                                    have LMc38 := Aside0.mk c38
                                    clear c38
                                    obtain ⟨y113, hy113⟩ : ∃ y_ : List Int, y_ = (x3_1 ++ [(wrap64 ((wrap64 (t110 * 16)) + t111)) % 256]) := ⟨_, rfl⟩
                                    replace H : (spec_Unquote.l0 kj15 a0 y113 (wrap64 ((ji26) + 1))) = some (r1, r2) := by first | (rw [hy113]; with_reducible exact H) | (have H2_ := (Option.bind_some _ _).symm.trans H; rw [hy113]; with_reducible exact H2_) | (have H2_ := (Option.bind_some _ _).symm.trans H; with_reducible exact H2_) | with_reducible exact H | (rw [hy113]; exact H) | exact H
                                    have Ny113 := Aside0.mk hy113
                                    clear hy113
                                    have H' := Aside0.mk H
                                    clear H
                                    have p24 : 0 ≤ ((ji21) : Int) := of_decide_eq_true (by first | (with_reducible assumption) | assumption)
                                    have q24 : (ji21) < (a0.size : Int) := of_decide_eq_true (by first | (with_reducible assumption) | assumption)
                                    have hx24 := bt_at a0 (ji21)
                                    replace p24 := eq_true p24
                                    replace q24 := eq_true q24
                                    go_wp2_with (first | ((with_reducible refine gate_callee (f := 43) rfl ?_); refine goesL_ (some 43) rfl rfl Try.func43 (by kernel_rfl) rfl #[.int .u8 (bt a0 (ji21))] rfl (by (try simp only [List.map_toArray, List.map_cons, List.map_nil]); first | done | (simp only [hji21]; rfl) | rfl | (simp only [List.length_drop, List.length_take]; rfl)) ?_; (with_reducible refine (spec_l14Digit.calls kj15 (bt a0 (ji21)) t110 _ A25.out).mono ?_); rintro e w' ⟨rfl, ⟨nd, rfl⟩⟩; refine ⟨_, rfl, ?_⟩; have p29 : 0 ≤ ((ji26) : Int) := of_decide_eq_true (by first | (with_reducible assumption) | assumption); have q29 : (ji26) < (a0.size : Int) := of_decide_eq_true (by first | (with_reducible assumption) | assumption); have hx29 := bt_at a0 (ji26); replace p29 := eq_true p29; replace q29 := eq_true q29) | ((with_reducible refine gate_callee (f := 43) rfl ?_); refine goesL_ (some 48) rfl rfl Try.func43 (by kernel_rfl) rfl #[.int .u8 (bt a0 (ji26))] rfl (by (try simp only [List.map_toArray, List.map_cons, List.map_nil]); first | done | (simp only [hji26]; rfl) | rfl | (simp only [List.length_drop, List.length_take]; rfl)) ?_; (with_reducible refine (spec_l14Digit.calls kj15 (bt a0 (ji26)) t111 _ A30.out).mono ?_); rintro e w' ⟨rfl, ⟨nd, rfl⟩⟩; refine ⟨_, rfl, ?_⟩) | (go_at_call 38; (with_reducible refine (spec_l14Plain.calls ((wrap64 ((wrap64 (t110 * 16)) + t111)) % 256) false _ A35.out).mono ?_); rintro e w' ⟨rfl, ⟨nd, rfl⟩⟩) | ((with_reducible refine gate_builtin (b := .append) (xs := #[.tmp 64, .tmp 70]) rfl ?_); (try (refine gate_guard (by rfl) ?_; dsimp only)); at_builtin; refine Kd.R_append (Kd.int .u8) (w0 := w) w.heap.size rfl (.tmp 64) (.tmp 70) 22 5 (.int .u8 0) 1 rfl Try.underlying22 info5 rfl (by decide) (by omega) u3 x3_1 ((wrap64 ((wrap64 (t110 * 16)) + t111)) % 256) [.int .u8 ((wrap64 ((wrap64 (t110 * 16)) + t111)) % 256)] (fun _ => True) (fun _ => False) rfl rfl ?aP (fun _ hk => hk.elim) ?aF ?aO ?aB ?aS ?aL ?_; (case aP => exact rfl); (case aB => exact (by repeat (first | (with_reducible first | exact HB.out | apply below_alloc | apply pw_below_drewN | apply below_drew1 | refine below_set ?_ GE102.out) | exact HB.out))); (case aF => exact (fun _ _ => trivial)); (case aO => exact (by (with_reducible repeat (first | apply Kd.R_alloc | apply Kd.R_drewN | apply Kd.R_drew)); exact HO_3.out)); (case aS => exact (below_size (by repeat (first | (with_reducible first | exact HB.out | apply below_alloc | apply pw_below_drewN | apply below_drew1 | refine below_set ?_ GE102.out) | exact HB.out)))); (case aL => have := LMc38.out; omega); intro v114 w39 ho hb hg hat; rw [← Ny113.out] at ho; have n0_ := Aside0.mk (blk_grown (g := gb102) (o := .cells #[.bool x103000_1, .string x103001_1] 42 (0, 0)) (by (with_reducible repeat (first | refine blk_drewN ?_ _ | refine blk_drew ?_ | refine blk_alloc ?_ _)); exact BK102.out) hg (Kd.R_ne HO_3.out BK102.out (by decide))); have n1_ := Aside0.mk (hb); have n2_ := Aside0.mk (ho); clear BK102; clear HB; clear HO_3; have BK102 := n0_; have HB := n1_; have HO115 := n2_; clear n0_ n1_ n2_; clear ho hb hg hat))
                                    go_roundg kj15
                                    case measure => have := HK1.out; have := HJ15.out; omega
                                    case rel => exact ⟨(y113), (wrap64 ((ji26) + 1)), (x103000_1), (x103001_1), (by first | rfl | (simp; done) | (simp only [← hji26] <;> (first | rfl | simp)) | (simp [*]; done)), H', ⟨by have := HK1.out; have := HJ15.out; omega⟩, ⟨by (with_reducible repeat (first | apply Kd.R_alloc | apply Kd.R_drewN | apply Kd.R_drew)); exact HO115.out⟩, ⟨by (with_reducible repeat (first | refine blk_drewN ?_ _ | refine blk_drew ?_ | refine blk_alloc ?_ _)); exact BK102.out⟩, ⟨by repeat (first | (with_reducible first | exact HB.out | apply below_alloc | apply pw_below_drewN | apply below_drew1 | refine below_set ?_ GE102.out) | exact HB.out)⟩⟩
                                  · rw [if_neg c38] at H
                                    exact absurd H (by simp)
                          · rw [if_neg c28] at H
                            exact absurd H (by simp)
                        · rw [if_neg c27] at H
                          exact absurd H (by simp)
                      · rw [if_neg c23] at H
                        exact absurd H (by simp)
                    · rw [if_neg c22] at H
                      exact absurd H (by simp)
          · rw [if_neg c9] at H
            exact absurd H (by simp)
        · rw [if_neg c8] at H
          have c8b0 : decide (x4_1 < (a0.size : Int)) = false := decide_eq_false c8
          clear c8
          by_cases c40 : (x3_1.length : Int) = 0
          · rw [if_pos c40] at H
            have c40b0 : ((x3_1.length : Int) == 0) = true := beq_iff_eq.mpr c40
            have c40b1 : ((x3_1.length : Int) != 0) = false := bne_eq_false_iff_eq.mpr c40
            clear c40
            simp only [Option.some.injEq, Prod.mk.injEq] at H
            obtain ⟨rfl, rfl⟩ := H
            obtain ⟨Ao41, co41, eo41⟩ := Kd.R_slice HO_3.out
            subst eo41
            have hcz42_0 : wr.cell? ⟨gb102, 0, none⟩ = some (.bool x103000_1) := (blk_cell BK102.out 0).trans rfl
            have hcz42_1 : wr.cell? ⟨gb102, 1, none⟩ = some (.string x103001_1) := (blk_cell BK102.out 1).trans rfl
            have hfz42_0 := blk_frozen BK102.out 0
            have hfz42_1 := blk_frozen BK102.out 1
            go_wp2
            refine bodyPost_ret (results_cell_row rfl _ _ gb102 42 #[.bool false, .string (⟨#[]⟩ : ByteArray)] (0, 0) _ rfl (by (with_reducible repeat (first | refine blk_drewN ?_ _ | refine blk_drew ?_ | refine blk_alloc ?_ _)); refine blk_put (cs := #[.bool false, .string x103001_1]) ?_ 1 _ rfl; (with_reducible repeat (first | refine blk_drewN ?_ _ | refine blk_drew ?_ | refine blk_alloc ?_ _)); refine blk_put (cs := #[.bool x103000_1, .string x103001_1]) ?_ 0 _ rfl; (with_reducible repeat (first | refine blk_drewN ?_ _ | refine blk_drew ?_ | refine blk_alloc ?_ _)); exact BK102.out) Try.underlying42 rfl (by kernel_rfl)) rfl ?_
            exact ⟨by first | rfl | (simp [errW_none, errW_some] <;> rfl) | (simp [*, errW_none, errW_some] <;> rfl), by repeat (first | (with_reducible first | exact HB.out | apply below_alloc | apply pw_below_drewN | apply below_drew1 | refine below_set ?_ GE102.out) | exact HB.out)⟩
          · rw [if_neg c40] at H
            have c40b0 : ((x3_1.length : Int) == 0) = false := beq_eq_false_iff_ne.mpr c40
            have c40b1 : ((x3_1.length : Int) != 0) = true := bne_iff_ne.mpr c40
            have c40b2 : ¬ (x3_1 = []) := fun h_ => c40 (by rw [h_]; rfl)
            by_cases c43 : (x3_1.length : Int) > 65536
            · rw [if_pos c43] at H
              have c43b0 : decide (65536 < (x3_1.length : Int)) = true := decide_eq_true c43
              have c43b1 : decide (65536 < x3_1.length) = true := decide_eq_true (by omega)
              clear c43
              simp only [Option.some.injEq, Prod.mk.injEq] at H
              obtain ⟨rfl, rfl⟩ := H
              obtain ⟨Ao44, co44, eo44⟩ := Kd.R_slice HO_3.out
              subst eo44
              have hcz45_0 : wr.cell? ⟨gb102, 0, none⟩ = some (.bool x103000_1) := (blk_cell BK102.out 0).trans rfl
              have hcz45_1 : wr.cell? ⟨gb102, 1, none⟩ = some (.string x103001_1) := (blk_cell BK102.out 1).trans rfl
              have hfz45_0 := blk_frozen BK102.out 0
              have hfz45_1 := blk_frozen BK102.out 1
              go_wp2
              refine bodyPost_ret (results_cell_row rfl _ _ gb102 42 #[.bool false, .string (⟨#[]⟩ : ByteArray)] (0, 0) _ rfl (by (with_reducible repeat (first | refine blk_drewN ?_ _ | refine blk_drew ?_ | refine blk_alloc ?_ _)); refine blk_put (cs := #[.bool false, .string x103001_1]) ?_ 1 _ rfl; (with_reducible repeat (first | refine blk_drewN ?_ _ | refine blk_drew ?_ | refine blk_alloc ?_ _)); refine blk_put (cs := #[.bool x103000_1, .string x103001_1]) ?_ 0 _ rfl; (with_reducible repeat (first | refine blk_drewN ?_ _ | refine blk_drew ?_ | refine blk_alloc ?_ _)); exact BK102.out) Try.underlying42 rfl (by kernel_rfl)) rfl ?_
              exact ⟨by first | rfl | (simp [errW_none, errW_some] <;> rfl) | (simp [*, errW_none, errW_some] <;> rfl), by repeat (first | (with_reducible first | exact HB.out | apply below_alloc | apply pw_below_drewN | apply below_drew1 | refine below_set ?_ GE102.out) | exact HB.out)⟩
            · rw [if_neg c43] at H
              have c43b0 : decide (65536 < (x3_1.length : Int)) = false := decide_eq_false c43
              have c43b1 : decide (65536 < x3_1.length) = false := decide_eq_false (by omega)
              clear c43
              simp only [Option.some.injEq, Prod.mk.injEq] at H
              obtain ⟨rfl, rfl⟩ := H
              obtain ⟨Ao46, co46, eo46⟩ := Kd.R_slice HO_3.out
              subst eo46
              have hcv47 := own_string (P := Try.prog) Try.underlying22 Try.underlying5 Try.underlying9 (Kd.own_of_R HO_3.out)
              have hcz48_0 : wr.cell? ⟨gb102, 0, none⟩ = some (.bool x103000_1) := (blk_cell BK102.out 0).trans rfl
              have hcz48_1 : wr.cell? ⟨gb102, 1, none⟩ = some (.string x103001_1) := (blk_cell BK102.out 1).trans rfl
              have hfz48_0 := blk_frozen BK102.out 0
              have hfz48_1 := blk_frozen BK102.out 1
              go_wp2
              refine bodyPost_ret (results_cell_row rfl _ _ gb102 42 #[.bool true, .string (strOfNums x3_1)] (0, 0) _ rfl (by (with_reducible repeat (first | refine blk_drewN ?_ _ | refine blk_drew ?_ | refine blk_alloc ?_ _)); refine blk_put (cs := #[.bool true, .string x103001_1]) ?_ 1 _ rfl; (with_reducible repeat (first | refine blk_drewN ?_ _ | refine blk_drew ?_ | refine blk_alloc ?_ _)); refine blk_put (cs := #[.bool x103000_1, .string x103001_1]) ?_ 0 _ rfl; (with_reducible repeat (first | refine blk_drewN ?_ _ | refine blk_drew ?_ | refine blk_alloc ?_ _)); exact BK102.out) Try.underlying42 rfl (by kernel_rfl)) rfl ?_
              exact ⟨by first | rfl | (simp [errW_none, errW_some] <;> rfl) | (simp [*, errW_none, errW_some] <;> rfl), by repeat (first | (with_reducible first | exact HB.out | apply below_alloc | apply pw_below_drewN | apply below_drew1 | refine below_set ?_ GE102.out) | exact HB.out)⟩

/-! ### impl_plainByte: function 40 -/
def impl_plainByte.f (a0 : Int) : Option (Bool) := if a0 ≥ 33 then (some (decide (a0 ≤ 126))) else (some false)
set_option maxHeartbeats 8000000 in
set_option maxRecDepth 100000 in
theorem impl_plainByte.calls (a0 : Int) (r : Bool) (w : World) (h : impl_plainByte.f a0 = some r) :
    Calls Try.prog 40 #[.int .u8 a0] w fun e w' => e = .returned (.bool r) ∧ Drawn0 w w' := by
  have H : (if a0 ≥ 33 then (some (decide (a0 ≤ 126))) else (some false)) = some r := h
  clear h
  by_cases c2 : a0 ≥ 33
  · rw [if_pos c2] at H
    have c2b0 : decide (33 ≤ a0) = true := decide_eq_true c2
    clear c2
    obtain rfl := Option.some.inj H
    go_enter Try.func40, Try.ntmps40
    go_wp2
    go_ret
    exact ⟨by first | rfl | (simp; done) | (simp [*]; done), by repeat (first | exact Drawn0.refl _ | apply Drawn0.step)⟩
  · rw [if_neg c2] at H
    have c2b0 : decide (33 ≤ a0) = false := decide_eq_false c2
    clear c2
    obtain rfl := Option.some.inj H
    go_enter Try.func40, Try.ntmps40
    go_wp2
    go_ret
    exact ⟨by first | rfl | (simp; done) | (simp [*]; done), by repeat (first | exact Drawn0.refl _ | apply Drawn0.step)⟩

/-! ### impl_Quote: function 25 -/
section
open Go.Proofs.Ytikandlenlhdkaa.Qt
/-! The builder's methods, walked at this program: copyCheck and WriteByte; String by the shelf's contract. -/
theorem bld_used (b : Nat) (w : World) (h0 : w.cell? ⟨b, 0, none⟩ = some (.pointer (some ⟨b, 0, none⟩))) :
    Calls Try.prog 52 #[.pointer (some ⟨b, 0, none⟩)] w fun e w' => e = .returned (.tuple #[]) ∧ w' = w := by
  have hs : (Try.prog.info? 59).map (·.size) = some 2 := by kernel_rfl
  obtain ⟨j, hj, _⟩ := Option.map_eq_some_iff.1 hs
  clear hs
  have hq := Lib.run_neq_ptr_same (P := Try.prog) w ⟨b, 0, none⟩ Try.underlying57 hj
  go_enter Try.func52, Try.ntmps52
  go_wp2
  go_end0
  exact ⟨rfl, rfl⟩
theorem bld_fresh (b : Nat) (w : World) (h0 : w.cell? ⟨b, 0, none⟩ = some (.pointer none)) (hsh : w.shape? b = some (59, 2)) (hfz : w.frozen? ⟨b, 0, none⟩ = false) :
    Calls Try.prog 52 #[.pointer (some ⟨b, 0, none⟩)] w fun e w' => e = .returned (.tuple #[]) ∧ w' = w.setCell ⟨b, 0, none⟩ (.pointer (some ⟨b, 0, none⟩)) := by
  have hs : (Try.prog.info? 59).map (·.size) = some 2 := by kernel_rfl
  obtain ⟨j, hj, hjs⟩ := Option.map_eq_some_iff.1 hs
  clear hs
  have c1 := Lib.run_to_unsafe w ⟨b, 0, none⟩ Try.underlying57 Try.underlying77 hj (by rw [hjs]; decide) hsh (Nat.zero_lt_succ 1)
  have c2 := Lib.run_from_unsafe w ⟨b, 0, none⟩ Try.underlying77 Try.underlying57 hj hsh (by kernel_rfl)
  have hx := @run_callFunc_extern Try.prog 55 _ Extern.AbiNoEscape.same Try.func55 (by kernel_rfl) (by kernel_rfl) (by kernel_rfl) (by kernel_rfl)
  have hn := fun x => Lib.run_noEscape (P := Try.prog) w x
  go_enter Try.func52, Try.ntmps52
  go_wp2
  go_end0
  exact ⟨rfl, rfl⟩
theorem bld_check (B b : Nat) (bs : List Value) (w : World) (h : Lib.IsBuilder 59 5 B b bs w) :
    Calls Try.prog 52 #[.pointer (some ⟨b, 0, none⟩)] w fun e w' => e = .returned (.tuple #[]) ∧ (Lib.BuilderAt 59 5 B b (.pointer (some ⟨b, 0, none⟩)) bs w' ∧ Below B w w') := by
  rcases h with h | h
  · exact (bld_fresh b w h.cell0 h.shape h.frozen0).mono fun e w' ⟨he, hw⟩ => by subst hw; exact ⟨he, h.used _, (Below.refl B w).setCell (p := ⟨b, 0, none⟩) h.1 _⟩
  · exact (bld_used b w h.cell0).mono fun e w' ⟨he, hw⟩ => by subst hw; exact ⟨he, h, Below.refl B _⟩
set_option maxHeartbeats 4000000 in
set_option maxRecDepth 100000 in
theorem bld_byte (B b : Nat) (bs : List Value) (c : Int) (w : World) (h : Lib.IsBuilder 59 5 B b bs w) (hlen : bs.length + 1 ≤ 140737488355328) (hBw : B ≤ w.heap.size) :
    Calls Try.prog 41 #[.pointer (some ⟨b, 0, none⟩), .int .u8 c] w fun e w' => e = .returned .nilIface ∧ (Lib.IsBuilder 59 5 B b (bs ++ [.int .u8 c]) w' ∧ Below B w w') := by
  have hinf : (Try.prog.info? 5).map (fun i => (i.zero, i.size, i.bytes)) = some (some (.int .u8 0), 1, 1) := by kernel_rfl
  obtain ⟨i0, hi, hz0, hz1, hz2⟩ := info_parts hinf
  go_enter Try.func41, Try.ntmps41
  go_wp2_with (go_at_call 52; refine (bld_check B b bs _ h).mono ?_)
  rintro e w1 ⟨rfl, h1, hb1⟩
  obtain ⟨hB, v, hbk, hown, hne⟩ := h1
  have c0 : w1.cell? ⟨b, 0, none⟩ = some (.pointer (some ⟨b, 0, none⟩)) := by rw [Lib.cell_of_heap hbk]; rfl
  have c1 : w1.cell? ⟨b, 1, none⟩ = some v := by rw [Lib.cell_of_heap hbk]; rfl
  go_wp2_with (at_builtin; refine wpList_append_own _ rfl _ _ 22 rfl B 5 i0 (.int .u8 0) 1 1 Try.underlying22 hi hz0 hz1 hz2 rfl (by decide) _ _ _ rfl (hown.alloc _) ⟨w1.heap.size, 0, none⟩ 1 1 [.int .u8 c] rfl rfl ?c1 ?c2 ?c3 ?c4 ?c5 ?_)
  case c1 =>
    intro j u hj
    match j, hj with
    | 0, hj => simp at hj; subst hj; simp [Addr.add]
  case c2 => intro u hu; simp at hu; subst hu; rfl
  case c3 => unfold maxLen; omega
  case c4 => omega
  case c5 => have := hb1.size; simp; omega
  intro v' w2 hown' hgrow _
  have hlt := blk_lt hbk
  have hb2 : w2.heap[b]? = some (.cells #[.pointer (some ⟨b, 0, none⟩), v] 59 (0, 0)) := by
    rw [hgrow.block b (by simp; omega) (fun e => hne e.symm), Lib.alloc_old w1 _ b hlt]
    exact hbk
  have d0 : w2.cell? ⟨b, 0, none⟩ = some (.pointer (some ⟨b, 0, none⟩)) := by rw [Lib.cell_of_heap hb2]; rfl
  have d1 : w2.cell? ⟨b, 1, none⟩ = some v := by rw [Lib.cell_of_heap hb2]; rfl
  have f1 : w2.frozen? ⟨b, 1, none⟩ = false := Lib.frozen_of_heap hb2 1
  obtain ⟨g, cap, rfl⟩ : ∃ g cap, v' = .slice (some ⟨g, 0, none⟩) (bs.length + 1) cap := by
    rcases hown'.2 with ⟨_, h0⟩ | ⟨g, cap, cur, hv, _⟩
    · omega
    · exact ⟨g, cap, hv⟩
  go_wp2
  go_ret
  refine ⟨rfl, .inr ?_, ?_⟩
  · exact Lib.BuilderAt.put (T := 59) (e := 5) hB hb2 (bs' := bs ++ [.int .u8 c]) (by simpa using hown') (by decide)
  · exact ((hb1.alloc (by have := hb1.size; omega) _).grown hgrow (by have := hb1.size; simp; omega) (fun k hk => (hown.lt k hk).1)).setCell (p := ⟨b, 1, none⟩) hB _
/-- impl.Quote. -/
def impl_Quote.f (s : ByteArray) : Option ByteArray := qF s
theorem impl_Quote.plain (c : UInt8) (h : qp c = true) : impl_plainByte.f (c.toNat : Int) = some true ∧ ((c.toNat : Int) != 37) = true := by
  unfold qp at h
  simp only [Bool.and_eq_true, decide_eq_true_eq] at h
  exact ⟨by unfold impl_plainByte.f; rw [if_pos (by omega), decide_eq_true (by omega)], bne_iff_ne.mpr (by omega)⟩
theorem impl_Quote.other (c : UInt8) (h : ¬ qp c = true) : (impl_plainByte.f (c.toNat : Int) = some true ∧ ((c.toNat : Int) != 37) = false) ∨ impl_plainByte.f (c.toNat : Int) = some false := by
  unfold qp at h
  simp only [Bool.and_eq_true, decide_eq_true_eq] at h
  unfold impl_plainByte.f
  by_cases h1 : (c.toNat : Int) ≥ 33
  · rw [if_pos h1]
    by_cases h2 : (c.toNat : Int) ≤ 126
    · rw [decide_eq_true h2]
      exact .inl ⟨rfl, bne_eq_false_iff_eq.mpr (by omega)⟩
    · rw [decide_eq_false h2]; exact .inr rfl
  · rw [if_neg h1]; exact .inr rfl
set_option maxHeartbeats 8000000 in
set_option maxRecDepth 100000 in
theorem impl_Quote.calls (s : ByteArray) (r : ByteArray) (w : World) (h : impl_Quote.f s = some r) :
    Calls Try.prog 25 #[.string s] w fun e w' => e = .returned (.string r) ∧ Below w.heap.size w w' := by
  unfold impl_Quote.f qF at h
  by_cases c1 : s.size > 65536
  · rw [if_pos c1] at h
    obtain rfl := Option.some.inj h
    have c1b : decide (65536 < (s.size : Int)) = true := decide_eq_true (by omega)
    have c1c : decide (65536 < s.size) = true := decide_eq_true (by omega)
    clear h c1
    go_enter Try.func25, Try.ntmps25
    go_wp2
    go_ret
    exact ⟨rfl, Below.refl _ _⟩
  rw [if_neg c1] at h
  have c1b : decide (65536 < (s.size : Int)) = false := decide_eq_false (by omega)
  have c1c : decide (65536 < s.size) = false := decide_eq_false (by omega)
  have HL := Aside0.mk (show s.size ≤ 65536 by omega)
  clear c1
  by_cases c2 : s.size = 0
  · rw [if_pos c2] at h
    obtain rfl := Option.some.inj h
    obtain rfl : s = ⟨#[]⟩ := by
      rcases s with ⟨a⟩
      have : a = #[] := Array.eq_empty_of_size_eq_zero c2
      rw [this]
    clear h c2 c1b c1c
    go_enter Try.func25, Try.ntmps25
    go_wp2
    go_ret
    exact ⟨rfl, Below.refl _ _⟩
  rw [if_neg c2] at h
  obtain rfl := Option.some.inj h
  have c2b : s.toList.isEmpty = false := by
    rw [Lib.toList_data]
    cases e : s.data.toList with
    | nil => exact absurd (by rw [← data_length, e]; rfl) c2
    | cons x l => rfl
  clear h c2
  go_enter Try.func25, Try.ntmps25
  go_wp2
  go_loopw [13] (fun v13 w' => ∃ k : Nat, v13 = .int .i64 (k : Int) ∧ Aside0 (k ≤ s.size) ∧ Aside0 (Lib.IsBuilder 59 5 w.heap.size w.heap.size (Lib.byteCells (ql (s.data.toList.take k))) w') ∧ Aside0 (Below w.heap.size w w')) (fun v13 _ => s.size - (intOf v13).toNat)
  case atStart =>
    refine ⟨0, rfl, ⟨Nat.zero_le _⟩, ⟨.inl ⟨Nat.le_refl _, .slice none 0 0, ?_, own_nil _ _ _ _, by simp [Value.ownBlock]⟩⟩, ⟨below_alloc (Below.refl _ _) _⟩⟩
    exact Array.getElem?_push_size
  case round =>
    obtain ⟨k, rfl, HK, HI, HB⟩ := hrel
    by_cases c3 : k < s.size
    rotate_left
    · have c3b : decide ((k : Int) < (s.size : Int)) = false := decide_eq_false (by omega)
      have c3c : decide (k < s.size) = false := decide_eq_false c3
      have hI := HI.out
      rw [show k = s.size by have := HK.out; omega, take_all] at hI
      have HI' := Aside0.mk hI
      clear hI HI c3
      go_wp2_with (go_at_call 42; refine (Try.Builder_String_any w.heap.size w.heap.size _ _ HI'.out HB.out.size).mono ?_; rintro e w2 ⟨rfl, hb⟩; have HB2 := Aside0.mk (Below.trans HB.out hb); clear HB hb)
      go_ret
      exact ⟨rfl, HB2.out⟩
    · have c3b : decide ((k : Int) < (s.size : Int)) = true := decide_eq_true (by omega)
      have c3c : decide (k < s.size) = true := decide_eq_true c3
      have HN := Aside0.mk (show (Lib.byteCells (ql (s.data.toList.take k))).length + 3 ≤ 140737488355328 by
        have h1 := ql_len (s.data.toList.take k)
        have h2 : (s.data.toList.take k).length ≤ k := List.length_take_le _ _
        have h3 := HL.out
        simp only [Lib.byteCells, List.length_map]; omega)
      have HS := Aside0.mk (ql_snoc s k c3)
      have hk : k ≤ 65536 := by have := HL.out; omega
      by_cases c4 : qp s[k] = true
      · have hp := impl_Quote.plain _ c4
        have HP := Aside0.mk hp.1
        have c5 := hp.2
        have HQ := Aside0.mk (show qb s[k] = [s[k]] from if_pos c4)
        clear hp c4
        go_wp2_with (first
          | (go_at_call 40; refine (impl_plainByte.calls _ true _ HP.out).mono ?_; rintro e w1 ⟨rfl, hd⟩; obtain ⟨nq, rfl⟩ := hd.out; have HB0 := Aside0.mk (pw_below_drewN HB.out nq); have HI0 := Aside0.mk (show Lib.IsBuilder 59 5 w.heap.size w.heap.size (Lib.byteCells (ql (s.data.toList.take k))) (wr.drewN nq) from HI.out); clear hd HP HI HB)
          | (go_at_call 41; refine (bld_byte w.heap.size w.heap.size _ _ _ HI0.out (by have := HN.out; omega) HB0.out.size).mono ?_; rintro e w2 ⟨rfl, hi, hb⟩; have HI1 := Aside0.mk hi; have HB1 := Aside0.mk (Below.trans HB0.out hb); clear HI0 HB0 hi hb)
          | fail)
        go_roundw
        case rel => exact ⟨k + 1, by go_num, ⟨by omega⟩, ⟨by rw [HS.out, HQ.out]; simpa [Lib.byteCells] using HI1.out⟩, HB1⟩
        case measure => simp [intOf]; omega
      · have HQ := Aside0.mk (show qb s[k] = [37, hx (s[k].toNat / 16), hx (s[k].toNat % 16)] from if_neg c4)
        have hc := impl_Quote.other _ c4
        clear c4
        have hb8 : s[k].toNat < 256 := UInt8.toNat_lt _
        rcases hc with ⟨h1, c5⟩ | h1
        · have HP := Aside0.mk h1
          clear h1
          go_wp2_with (first
            | (go_at_call 40; refine (impl_plainByte.calls _ true _ HP.out).mono ?_; rintro e w1 ⟨rfl, hd⟩; obtain ⟨nq, rfl⟩ := hd.out; have HB0 := Aside0.mk (pw_below_drewN HB.out nq); have HI0 := Aside0.mk (show Lib.IsBuilder 59 5 w.heap.size w.heap.size (Lib.byteCells (ql (s.data.toList.take k))) (wr.drewN nq) from HI.out); clear hd HP HI HB)
            | (go_at_call 41; refine (bld_byte w.heap.size w.heap.size _ 37 _ HI0.out (by have := HN.out; omega) HB0.out.size).mono ?_; rintro e w2 ⟨rfl, hi, hb⟩; have HI1 := Aside0.mk hi; have HB1 := Aside0.mk (Below.trans HB0.out hb); clear HI0 HB0 hi hb)
            | (go_at_call 41; refine (bld_byte w.heap.size w.heap.size _ _ _ HI1.out (by have := HN.out; simp only [List.length_append, List.length_singleton]; omega) HB1.out.size).mono ?_; rintro e w3 ⟨rfl, hi, hb⟩; have HI2 := Aside0.mk hi; have HB2 := Aside0.mk (Below.trans HB1.out hb); clear HI1 HB1 hi hb)
            | (go_at_call 41; refine (bld_byte w.heap.size w.heap.size _ _ _ HI2.out (by have := HN.out; simp only [List.length_append, List.length_singleton]; omega) HB2.out.size).mono ?_; rintro e w4 ⟨rfl, hi, hb⟩; have HI3 := Aside0.mk hi; have HB3 := Aside0.mk (Below.trans HB2.out hb); clear HI2 HB2 hi hb)
            | fail)
          have h3 := HI3.out
          rw [hex_at _ (by omega), hex_at _ (by omega)] at h3
          go_roundw
          case rel => exact ⟨k + 1, by go_num, ⟨by omega⟩, ⟨by rw [HS.out, HQ.out]; simpa [Lib.byteCells] using h3⟩, HB3⟩
          case measure => simp [intOf]; omega
        · have HP := Aside0.mk h1
          clear h1
          go_wp2_with (first
            | (go_at_call 40; refine (impl_plainByte.calls _ false _ HP.out).mono ?_; rintro e w1 ⟨rfl, hd⟩; obtain ⟨nq, rfl⟩ := hd.out; have HB0 := Aside0.mk (pw_below_drewN HB.out nq); have HI0 := Aside0.mk (show Lib.IsBuilder 59 5 w.heap.size w.heap.size (Lib.byteCells (ql (s.data.toList.take k))) (wr.drewN nq) from HI.out); clear hd HP HI HB)
            | (go_at_call 41; refine (bld_byte w.heap.size w.heap.size _ 37 _ HI0.out (by have := HN.out; omega) HB0.out.size).mono ?_; rintro e w2 ⟨rfl, hi, hb⟩; have HI1 := Aside0.mk hi; have HB1 := Aside0.mk (Below.trans HB0.out hb); clear HI0 HB0 hi hb)
            | (go_at_call 41; refine (bld_byte w.heap.size w.heap.size _ _ _ HI1.out (by have := HN.out; simp only [List.length_append, List.length_singleton]; omega) HB1.out.size).mono ?_; rintro e w3 ⟨rfl, hi, hb⟩; have HI2 := Aside0.mk hi; have HB2 := Aside0.mk (Below.trans HB1.out hb); clear HI1 HB1 hi hb)
            | (go_at_call 41; refine (bld_byte w.heap.size w.heap.size _ _ _ HI2.out (by have := HN.out; simp only [List.length_append, List.length_singleton]; omega) HB2.out.size).mono ?_; rintro e w4 ⟨rfl, hi, hb⟩; have HI3 := Aside0.mk hi; have HB3 := Aside0.mk (Below.trans HB2.out hb); clear HI2 HB2 hi hb)
            | fail)
          have h3 := HI3.out
          rw [hex_at _ (by omega), hex_at _ (by omega)] at h3
          go_roundw
          case rel => exact ⟨k + 1, by go_num, ⟨by omega⟩, ⟨by rw [HS.out, HQ.out]; simpa [Lib.byteCells] using h3⟩, HB3⟩
          case measure => simp [intOf]; omega
end


/-! ### strings_IndexByte: function 44 -/
/-- strings.IndexByte: the place of the first such byte, or -1. -/
def strings_IndexByte.f (s : ByteArray) (c : Int) : Option Int := some (Lib.indexByte s.data.toList c.toNat.toUInt8)
theorem strings_IndexByte.calls (s : ByteArray) (c : Int) (r : Int) (w : World) (h : strings_IndexByte.f s c = some r) :
    Calls Try.prog 44 #[.string s, .int .u8 c] w fun e w' => e = .returned (.int .i64 r) ∧ Drawn0 w w' := by
  obtain rfl := Option.some.inj h
  exact (Try.strings_IndexByte s c w).mono fun e w' ⟨he, hw⟩ => by subst hw; exact ⟨he, Drawn0.refl _⟩


end Go.Proofs.Ytikandlenlhdkaa.PFnExactUnquote
