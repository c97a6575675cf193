-- written by a program of this session (wip/src/print2.py)
import Derived.Test.YtkehfdadplpaeaaDoorPFnExactParseLinex0
import Derived.Test.YtkehfdadplpaeaaDoorPFnExactParseLinex8
namespace Go.Proofs.YtkehfdadplpaeaaDoor.PFnExactParseLine
open Go.RowKit Go.Proofs.YtkehfdadplpaeaaDoorW.PrintWords Go.Proofs.YtkehfdadplpaeaaDoorW.PrintLast Go.Proofs.YtkehfdadplpaeaaDoorW.PrintMore
attribute [local go_sem] max2_int min2_int max_two min_two max_three min_three max_four min_four   -- for this text's walks alone
set_option linter.unusedVariables false
set_option linter.unusedSimpArgs false

/-! ### impl_Unquote: function 34 -/
def impl_Unquote.l0 : Nat → ByteArray → List Int → Int → Option (Bool × ByteArray)
 | 0, _, _, _ => none
 | k + 1, x0, x3, x4 => if x4 < (x0.size : Int) then (if 0 ≤ x4 then (if (bt x0 x4) = 37 then (if (wrap64 (x4 + 2)) ≥ (x0.size : Int) then (some (false, (⟨#[]⟩ : ByteArray))) else (if 0 ≤ (wrap64 (x4 + 1)) then (if (wrap64 (x4 + 1)) < (x0.size : Int) then ((strings_IndexByte.f (⟨#[48, 49, 50, 51, 52, 53, 54, 55, 56, 57, 97, 98, 99, 100, 101, 102]⟩ : ByteArray) (bt x0 (wrap64 (x4 + 1)))).bind fun t285 => (if 0 ≤ (wrap64 (x4 + 2)) then (if (wrap64 (x4 + 2)) < (x0.size : Int) then ((strings_IndexByte.f (⟨#[48, 49, 50, 51, 52, 53, 54, 55, 56, 57, 97, 98, 99, 100, 101, 102]⟩ : ByteArray) (bt x0 (wrap64 (x4 + 2)))).bind fun t286 => (if t285 < 0 then (some (false, (⟨#[]⟩ : ByteArray))) else (if t286 < 0 then (some (false, (⟨#[]⟩ : ByteArray))) else (if x3.length < 140737488355328 then (impl_Unquote.l0 k x0 (x3 ++ [(Go.bits .or .i64 (wrap64 (t285 * 16)) t286) % 256]) (wrap64 ((wrap64 (x4 + 2)) + 1))) else (none))))) else (none)) else (none))) else (none)) else (none))) else (if x3.length < 140737488355328 then (impl_Unquote.l0 k x0 (x3 ++ [bt x0 x4]) (wrap64 (x4 + 1))) else (none))) else (none)) else (if (x3.length : Int) = 0 then (some (false, (⟨#[]⟩ : ByteArray))) else (if (x3.length : Int) > 65536 then (some (false, (⟨#[]⟩ : ByteArray))) else ((impl_Quote.f (strOfNums x3)).bind fun t281 => (if t281.toList = x0.toList then (some (true, strOfNums x3)) else (some (false, (⟨#[]⟩ : ByteArray)))))))
def impl_Unquote.f (k : Nat) (a0 : ByteArray) : Option (Bool × ByteArray) := if a0.toList = ([37] : List UInt8) then (some (true, (⟨#[]⟩ : ByteArray))) else (impl_Unquote.l0 k a0 ([] : List Int) 0)
set_option maxHeartbeats 8000000 in
set_option maxRecDepth 100000 in
theorem impl_Unquote.calls (k : Nat) (a0 : ByteArray) (r1 : Bool) (r2 : ByteArray) (w : World) (h : impl_Unquote.f k a0 = some (r1, r2)) :
  Calls Tryd.prog 34 #[.string a0] w fun e w' => e = .returned (.agg #[.bool r1, .string r2]) ∧ Below w.heap.size w w' := by
 have hu77 := Tryd.underlying77
 have HB := Aside0.mk (Below.refl w.heap.size w)
 have H : (if a0.toList = ([37] : List UInt8) then (some (true, (⟨#[]⟩ : ByteArray))) else (impl_Unquote.l0 k a0 ([] : List Int) 0)) = some (r1, r2) := h
 clear h
 by_cases c2 : a0.toList = ([37] : List UInt8)
 ·
  rw [if_pos c2] at H
  have c2b0 : (a0.toList == ([37] : List UInt8)) = true := beq_iff_eq.mpr c2
  have c2b1 : (a0.toList != ([37] : List UInt8)) = false := bne_eq_false_iff_eq.mpr c2
  clear c2
  simp only [Option.some.injEq, Prod.mk.injEq] at H
  obtain ⟨rfl, rfl⟩ := H
  go_enter Tryd.func34, Tryd.ntmps34
  go_wp2_with (first | ((with_reducible refine gate_dst (N := 2) rfl ?_); (try (refine gate_guard (by rfl) ?_; dsimp only)); refine Rgn.bx 2 #[.bool false, .string (⟨#[]⟩ : ByteArray)] 77 ?_; intro gb280 hg w3 hbox hb; have BK280 := Aside0.mk (hbox); have GW280 := Aside0.mk (Rgn.ge hg HB.out); have GE280 := Aside0.mk (Rgn.ge hg HB.out); replace HB := Aside0.mk (below_step (Rgn.bq HB.out) hb); clear hb hbox hg; obtain ⟨hcz4_0, hcz4_1, hfz4_0, hfz4_1⟩ := Rgn.c2 BK280.out))
  repeat (go_quiet (fail); try go_wp2_with (first | ((with_reducible refine gate_dst (N := 2) rfl ?_); (try (refine gate_guard (by rfl) ?_; dsimp only)); refine Rgn.bx 2 #[.bool false, .string (⟨#[]⟩ : ByteArray)] 77 ?_; intro gb280 hg w3 hbox hb; have BK280 := Aside0.mk (hbox); have GW280 := Aside0.mk (Rgn.ge hg HB.out); have GE280 := Aside0.mk (Rgn.ge hg HB.out); replace HB := Aside0.mk (below_step (Rgn.bq HB.out) hb); clear hb hbox hg; obtain ⟨hcz4_0, hcz4_1, hfz4_0, hfz4_1⟩ := Rgn.c2 BK280.out)))
  refine bodyPost_ret (results_cell_row rfl _ _ gb280 77 #[.bool true, .string (⟨#[]⟩ : ByteArray)] (0, 0) _ rfl (by (with_reducible repeat (first | refine blk_drewN ?_ _ | refine blk_drew ?_ | refine blk_alloc ?_ _)); refine blk_put (cs := #[.bool true, .string (⟨#[]⟩ : ByteArray)]) ?_ 1 _ rfl; (with_reducible repeat (first | refine blk_drewN ?_ _ | refine blk_drew ?_ | refine blk_alloc ?_ _)); refine blk_put (cs := #[.bool false, .string (⟨#[]⟩ : ByteArray)]) ?_ 0 _ rfl; (with_reducible repeat (first | refine blk_drewN ?_ _ | refine blk_drew ?_ | refine blk_alloc ?_ _)); exact BK280.out) Tryd.underlying77 rfl (by kernel_rfl)) rfl ?_
  exact ⟨by first | rfl | (simp [errW_none, errW_some] <;> rfl) | (simp [*, errW_none, errW_some] <;> rfl), Rgn.bq HB.out⟩
 ·
  rw [if_neg c2] at H
  have c2b0 : (a0.toList == ([37] : List UInt8)) = false := beq_eq_false_iff_ne.mpr c2
  have c2b1 : (a0.toList != ([37] : List UInt8)) = true := bne_iff_ne.mpr c2
  have H' := Aside0.mk H
  clear H
  go_enter Tryd.func34, Tryd.ntmps34
  go_wp2_with (first | ((with_reducible refine gate_dst (N := 2) rfl ?_); (try (refine gate_guard (by rfl) ?_; dsimp only)); refine Rgn.bx 2 #[.bool false, .string (⟨#[]⟩ : ByteArray)] 77 ?_; intro gb280 hg w5 hbox hb; have BK280 := Aside0.mk (hbox); have GW280 := Aside0.mk (Rgn.ge hg HB.out); have GE280 := Aside0.mk (Rgn.ge hg HB.out); replace HB := Aside0.mk (below_step (Rgn.bq HB.out) hb); clear hb hbox hg))
  repeat (go_quiet (fail); try go_wp2_with (first | ((with_reducible refine gate_dst (N := 2) rfl ?_); (try (refine gate_guard (by rfl) ?_; dsimp only)); refine Rgn.bx 2 #[.bool false, .string (⟨#[]⟩ : ByteArray)] 77 ?_; intro gb280 hg w5 hbox hb; have BK280 := Aside0.mk (hbox); have GW280 := Aside0.mk (Rgn.ge hg HB.out); have GE280 := Aside0.mk (Rgn.ge hg HB.out); replace HB := Aside0.mk (below_step (Rgn.bq HB.out) hb); clear hb hbox hg)))
  go_loopg [3, 4] k (fun kq v3 v4 w' => ∃ (x3_1 : List Int) (x4_1 : Int) (x281000_1 : Bool) (x281001_1 : ByteArray), v4 = .int .i64 x4_1 ∧ Aside0 (impl_Unquote.l0 kq a0 x3_1 x4_1 = some (r1, r2)) ∧ Aside0 (kq ≤ k) ∧ Aside0 (Kd.R (Kd.int .u8) 5 w' w.heap.size (fun _ => True) v3 x3_1) ∧ Aside0 (w'.heap[gb280]? = some (.cells #[.bool x281000_1, .string x281001_1] 77 (0, 0))) ∧ Aside0 (Below w.heap.size w w'))
  case atStart => exact ⟨(([] : List Int)), (0), (false), ((⟨#[]⟩ : ByteArray)), (by first | rfl | (simp; done) | (simp [*]; done)), H', ⟨Nat.le_refl _⟩, ⟨by first | exact Kd.R_nil _ _ _ _ _ | exact Kd.N_nil _ _ _ _ _ | exact Kd.V_nil _ _ _ _ _ | exact Kd.Q_nil _ _ _ _ _ | exact Kd.S_nil _ _ _ _ _⟩, ⟨Rgn.kb BK280.out⟩, ⟨Rgn.bq HB.out⟩⟩
  case round =>
   clear H'
   try clear c2
   try clear c2b0
   try clear c2b1
   obtain ⟨x3_1, x4_1, x281000_1, x281001_1, rfl, HA, HK1, HO_3, BK280, HB⟩ := hrel
   cases gk with
   | zero => exact absurd HA.out (by simp [impl_Unquote.l0])
   | succ k1 =>
    have H := HA.out
    clear HA
    simp only [impl_Unquote.l0] at H
    by_cases c6 : x4_1 < (a0.size : Int)
    ·
     rw [if_pos c6] at H
     have c6b0 : decide (x4_1 < (a0.size : Int)) = true := decide_eq_true c6
     clear c6
     by_cases c7 : 0 ≤ x4_1
     ·
      rw [if_pos c7] at H
      have c7b0 : decide (0 ≤ x4_1) = true := decide_eq_true c7
      clear c7
      by_cases c9 : (bt a0 x4_1) = 37
      ·
       rw [if_pos c9] at H
       have c9b0 : ((bt a0 x4_1) == 37) = true := beq_iff_eq.mpr c9
       have c9b1 : ((bt a0 x4_1) != 37) = false := bne_eq_false_iff_eq.mpr c9
       clear c9
       by_cases c10 : (wrap64 (x4_1 + 2)) ≥ (a0.size : Int)
       ·
        rw [if_pos c10] at H
        have c10b0 : decide ((a0.size : Int) ≤ (wrap64 (x4_1 + 2))) = true := decide_eq_true c10
        clear c10
        simp only [Option.some.injEq, Prod.mk.injEq] at H
        obtain ⟨rfl, rfl⟩ := H
        have p8 : 0 ≤ (x4_1 : Int) := of_decide_eq_true (by first | (with_reducible assumption) | assumption)
        have q8 : x4_1 < (a0.size : Int) := of_decide_eq_true (by first | (with_reducible assumption) | assumption)
        have hx8 := bt_at a0 x4_1
        replace p8 := eq_true p8
        replace q8 := eq_true q8
        have hcz11_0 := Rgn.cz0 BK280.out
        have hcz11_1 := Rgn.cz1 BK280.out
        have hfz11_0 := blk_frozen BK280.out 0
        have hfz11_1 := blk_frozen BK280.out 1
        go_wp2
        repeat (go_quiet (fail); try go_wp2)
        refine bodyPost_ret (results_cell_row rfl _ _ gb280 77 #[.bool false, .string (⟨#[]⟩ : ByteArray)] (0, 0) _ rfl (by (with_reducible repeat (first | refine blk_drewN ?_ _ | refine blk_drew ?_ | refine blk_alloc ?_ _)); refine blk_put (cs := #[.bool false, .string x281001_1]) ?_ 1 _ rfl; (with_reducible repeat (first | refine blk_drewN ?_ _ | refine blk_drew ?_ | refine blk_alloc ?_ _)); refine blk_put (cs := #[.bool x281000_1, .string x281001_1]) ?_ 0 _ rfl; (with_reducible repeat (first | refine blk_drewN ?_ _ | refine blk_drew ?_ | refine blk_alloc ?_ _)); exact BK280.out) Tryd.underlying77 rfl (by kernel_rfl)) rfl ?_
        exact ⟨by first | rfl | (simp [errW_none, errW_some] <;> rfl) | (simp [*, errW_none, errW_some] <;> rfl), Rgn.bq HB.out⟩
       ·
        rw [if_neg c10] at H
        have c10b0 : decide ((a0.size : Int) ≤ (wrap64 (x4_1 + 2))) = false := decide_eq_false c10
        clear c10
        obtain ⟨ji12, hji12⟩ : ∃ j_ : Int, (wrap64 (x4_1 + 1)) = j_ := ⟨_, rfl⟩
        replace H : (if 0 ≤ (ji12) then (if (ji12) < (a0.size : Int) then ((strings_IndexByte.f (⟨#[48, 49, 50, 51, 52, 53, 54, 55, 56, 57, 97, 98, 99, 100, 101, 102]⟩ : ByteArray) (bt a0 (ji12))).bind fun t285 => (if 0 ≤ (wrap64 (x4_1 + 2)) then (if (wrap64 (x4_1 + 2)) < (a0.size : Int) then ((strings_IndexByte.f (⟨#[48, 49, 50, 51, 52, 53, 54, 55, 56, 57, 97, 98, 99, 100, 101, 102]⟩ : ByteArray) (bt a0 (wrap64 (x4_1 + 2)))).bind fun t286 => (if t285 < 0 then (some (false, (⟨#[]⟩ : ByteArray))) else (if t286 < 0 then (some (false, (⟨#[]⟩ : ByteArray))) else (if x3_1.length < 140737488355328 then (impl_Unquote.l0 k1 a0 (x3_1 ++ [(Go.bits .or .i64 (wrap64 (t285 * 16)) t286) % 256]) (wrap64 ((wrap64 (x4_1 + 2)) + 1))) else (none))))) else (none)) else (none))) else (none)) else (none)) = some (r1, r2) := by first | (rw [hji12] at H; exact H) | (simp only [hji12] at H ⊢; exact H)
        have hji12w : (IntKind.i64.wrap (x4_1 + 1)) = ji12 := (i64_w _).trans hji12
        by_cases c13 : 0 ≤ (ji12)
        ·
         rw [if_pos c13] at H
         have c13b0 : decide (0 ≤ (ji12)) = true := decide_eq_true c13
         clear c13
         by_cases c14 : (ji12) < (a0.size : Int)
         ·
          rw [if_pos c14] at H
          have c14b0 : decide ((ji12) < (a0.size : Int)) = true := decide_eq_true c14
          clear c14
          replace H := Option.bind_eq_some_iff.mp H
          obtain ⟨t285, A160, H⟩ := H
          replace H : (if 0 ≤ (wrap64 (x4_1 + 2)) then (if (wrap64 (x4_1 + 2)) < (a0.size : Int) then ((strings_IndexByte.f (⟨#[48, 49, 50, 51, 52, 53, 54, 55, 56, 57, 97, 98, 99, 100, 101, 102]⟩ : ByteArray) (bt a0 (wrap64 (x4_1 + 2)))).bind fun t286 => (if t285 < 0 then (some (false, (⟨#[]⟩ : ByteArray))) else (if t286 < 0 then (some (false, (⟨#[]⟩ : ByteArray))) else (if x3_1.length < 140737488355328 then (impl_Unquote.l0 k1 a0 (x3_1 ++ [(Go.bits .or .i64 (wrap64 (t285 * 16)) t286) % 256]) (wrap64 ((wrap64 (x4_1 + 2)) + 1))) else (none))))) else (none)) else (none)) = some (r1, r2) := H
          have A16 := Aside0.mk A160
          clear A160
          obtain ⟨ji17, hji17⟩ : ∃ j_ : Int, (wrap64 (x4_1 + 2)) = j_ := ⟨_, rfl⟩
          replace H : (if 0 ≤ (ji17) then (if (ji17) < (a0.size : Int) then ((strings_IndexByte.f (⟨#[48, 49, 50, 51, 52, 53, 54, 55, 56, 57, 97, 98, 99, 100, 101, 102]⟩ : ByteArray) (bt a0 (ji17))).bind fun t286 => (if t285 < 0 then (some (false, (⟨#[]⟩ : ByteArray))) else (if t286 < 0 then (some (false, (⟨#[]⟩ : ByteArray))) else (if x3_1.length < 140737488355328 then (impl_Unquote.l0 k1 a0 (x3_1 ++ [(Go.bits .or .i64 (wrap64 (t285 * 16)) t286) % 256]) (wrap64 ((ji17) + 1))) else (none))))) else (none)) else (none)) = some (r1, r2) := by first | (rw [hji17] at H; exact H) | (simp only [hji17] at H ⊢; exact H)
          (try rw [hji17] at c10b0)
          (try rw [hji17] at A16)
          have hji17w : (IntKind.i64.wrap (x4_1 + 2)) = ji17 := (i64_w _).trans hji17
          by_cases c18 : 0 ≤ (ji17)
          ·
           rw [if_pos c18] at H
           have c18b0 : decide (0 ≤ (ji17)) = true := decide_eq_true c18
           clear c18
           by_cases c19 : (ji17) < (a0.size : Int)
           ·
            rw [if_pos c19] at H
            have c19b0 : decide ((ji17) < (a0.size : Int)) = true := decide_eq_true c19
            clear c19
            replace H := Option.bind_eq_some_iff.mp H
            obtain ⟨t286, A210, H⟩ := H
            replace H : (if t285 < 0 then (some (false, (⟨#[]⟩ : ByteArray))) else (if t286 < 0 then (some (false, (⟨#[]⟩ : ByteArray))) else (if x3_1.length < 140737488355328 then (impl_Unquote.l0 k1 a0 (x3_1 ++ [(Go.bits .or .i64 (wrap64 (t285 * 16)) t286) % 256]) (wrap64 ((ji17) + 1))) else (none)))) = some (r1, r2) := H
            have A21 := Aside0.mk A210
            clear A210
            by_cases c22 : t285 < 0
            ·
             rw [if_pos c22] at H
             have c22b0 : decide (t285 < 0) = true := decide_eq_true c22
             clear c22
             simp only [Option.some.injEq, Prod.mk.injEq] at H
             obtain ⟨rfl, rfl⟩ := H
             have p8 : 0 ≤ (x4_1 : Int) := of_decide_eq_true (by first | (with_reducible assumption) | assumption)
             have q8 : x4_1 < (a0.size : Int) := of_decide_eq_true (by first | (with_reducible assumption) | assumption)
             have hx8 := bt_at a0 x4_1
             replace p8 := eq_true p8
             replace q8 := eq_true q8
             have p15 : 0 ≤ ((ji12) : Int) := of_decide_eq_true (by first | (with_reducible assumption) | assumption)
             have q15 : (ji12) < (a0.size : Int) := of_decide_eq_true (by first | (with_reducible assumption) | assumption)
             have hx15 := bt_at a0 (ji12)
             replace p15 := eq_true p15
             replace q15 := eq_true q15
             go_wp2_with (first | (go_at_call 65; (with_reducible refine (strings_IndexByte.calls (⟨#[48, 49, 50, 51, 52, 53, 54, 55, 56, 57, 97, 98, 99, 100, 101, 102]⟩ : ByteArray) (bt a0 (ji12)) t285 _ A16.out).mono ?_); rintro e w' ⟨rfl, ⟨nd, rfl⟩⟩; (try first | exact ⟨rfl, _, World.drewN_drewN _ _ _⟩ | exact ⟨rfl, _, Eq.trans (World.drewN_drewN _ _ _) (congrArg (World.drewN _) (Nat.add_assoc _ _ _))⟩); have p20 : 0 ≤ ((ji17) : Int) := of_decide_eq_true (by first | (with_reducible assumption) | assumption); have q20 : (ji17) < (a0.size : Int) := of_decide_eq_true (by first | (with_reducible assumption) | assumption); have hx20 := bt_at a0 (ji17); replace p20 := eq_true p20; replace q20 := eq_true q20) | (go_at_call 65; (with_reducible refine (strings_IndexByte.calls (⟨#[48, 49, 50, 51, 52, 53, 54, 55, 56, 57, 97, 98, 99, 100, 101, 102]⟩ : ByteArray) (bt a0 (ji17)) t286 _ A21.out).mono ?_); rintro e w' ⟨rfl, ⟨nd, rfl⟩⟩; (try first | exact ⟨rfl, _, World.drewN_drewN _ _ _⟩ | exact ⟨rfl, _, Eq.trans (World.drewN_drewN _ _ _) (congrArg (World.drewN _) (Nat.add_assoc _ _ _))⟩); obtain ⟨hcz23_0, hcz23_1, hfz23_0, hfz23_1⟩ := Rgn.c2 BK280.out))
             repeat (go_quiet (first | (go_at_call 65; (with_reducible refine (strings_IndexByte.calls (⟨#[48, 49, 50, 51, 52, 53, 54, 55, 56, 57, 97, 98, 99, 100, 101, 102]⟩ : ByteArray) (bt a0 (ji12)) t285 _ A16.out).mono ?_); rintro e w' ⟨rfl, ⟨nd, rfl⟩⟩; (try first | exact ⟨rfl, _, World.drewN_drewN _ _ _⟩ | exact ⟨rfl, _, Eq.trans (World.drewN_drewN _ _ _) (congrArg (World.drewN _) (Nat.add_assoc _ _ _))⟩); have p20 : 0 ≤ ((ji17) : Int) := of_decide_eq_true (by first | (with_reducible assumption) | assumption); have q20 : (ji17) < (a0.size : Int) := of_decide_eq_true (by first | (with_reducible assumption) | assumption); have hx20 := bt_at a0 (ji17); replace p20 := eq_true p20; replace q20 := eq_true q20) | (go_at_call 65; (with_reducible refine (strings_IndexByte.calls (⟨#[48, 49, 50, 51, 52, 53, 54, 55, 56, 57, 97, 98, 99, 100, 101, 102]⟩ : ByteArray) (bt a0 (ji17)) t286 _ A21.out).mono ?_); rintro e w' ⟨rfl, ⟨nd, rfl⟩⟩; (try first | exact ⟨rfl, _, World.drewN_drewN _ _ _⟩ | exact ⟨rfl, _, Eq.trans (World.drewN_drewN _ _ _) (congrArg (World.drewN _) (Nat.add_assoc _ _ _))⟩); obtain ⟨hcz23_0, hcz23_1, hfz23_0, hfz23_1⟩ := Rgn.c2 BK280.out)); try go_wp2_with (first | (go_at_call 65; (with_reducible refine (strings_IndexByte.calls (⟨#[48, 49, 50, 51, 52, 53, 54, 55, 56, 57, 97, 98, 99, 100, 101, 102]⟩ : ByteArray) (bt a0 (ji12)) t285 _ A16.out).mono ?_); rintro e w' ⟨rfl, ⟨nd, rfl⟩⟩; (try first | exact ⟨rfl, _, World.drewN_drewN _ _ _⟩ | exact ⟨rfl, _, Eq.trans (World.drewN_drewN _ _ _) (congrArg (World.drewN _) (Nat.add_assoc _ _ _))⟩); have p20 : 0 ≤ ((ji17) : Int) := of_decide_eq_true (by first | (with_reducible assumption) | assumption); have q20 : (ji17) < (a0.size : Int) := of_decide_eq_true (by first | (with_reducible assumption) | assumption); have hx20 := bt_at a0 (ji17); replace p20 := eq_true p20; replace q20 := eq_true q20) | (go_at_call 65; (with_reducible refine (strings_IndexByte.calls (⟨#[48, 49, 50, 51, 52, 53, 54, 55, 56, 57, 97, 98, 99, 100, 101, 102]⟩ : ByteArray) (bt a0 (ji17)) t286 _ A21.out).mono ?_); rintro e w' ⟨rfl, ⟨nd, rfl⟩⟩; (try first | exact ⟨rfl, _, World.drewN_drewN _ _ _⟩ | exact ⟨rfl, _, Eq.trans (World.drewN_drewN _ _ _) (congrArg (World.drewN _) (Nat.add_assoc _ _ _))⟩); obtain ⟨hcz23_0, hcz23_1, hfz23_0, hfz23_1⟩ := Rgn.c2 BK280.out)))
             refine bodyPost_ret (results_cell_row rfl _ _ gb280 77 #[.bool false, .string (⟨#[]⟩ : ByteArray)] (0, 0) _ rfl (by (with_reducible repeat (first | refine blk_drewN ?_ _ | refine blk_drew ?_ | refine blk_alloc ?_ _)); refine blk_put (cs := #[.bool false, .string x281001_1]) ?_ 1 _ rfl; (with_reducible repeat (first | refine blk_drewN ?_ _ | refine blk_drew ?_ | refine blk_alloc ?_ _)); refine blk_put (cs := #[.bool x281000_1, .string x281001_1]) ?_ 0 _ rfl; (with_reducible repeat (first | refine blk_drewN ?_ _ | refine blk_drew ?_ | refine blk_alloc ?_ _)); exact BK280.out) Tryd.underlying77 rfl (by kernel_rfl)) rfl ?_
             exact ⟨by first | rfl | (simp [errW_none, errW_some] <;> rfl) | (simp only [← hji12, ← hji17]; first | rfl | (simp [errW_none, errW_some] <;> rfl)) | (simp [*, errW_none, errW_some] <;> rfl), Rgn.bq HB.out⟩
            ·
             rw [if_neg c22] at H
             have c22b0 : decide (t285 < 0) = false := decide_eq_false c22
             clear c22
             by_cases c24 : t286 < 0
             ·
              rw [if_pos c24] at H
              have c24b0 : decide (t286 < 0) = true := decide_eq_true c24
              clear c24
              simp only [Option.some.injEq, Prod.mk.injEq] at H
              obtain ⟨rfl, rfl⟩ := H
              have p8 : 0 ≤ (x4_1 : Int) := of_decide_eq_true (by first | (with_reducible assumption) | assumption)
              have q8 : x4_1 < (a0.size : Int) := of_decide_eq_true (by first | (with_reducible assumption) | assumption)
              have hx8 := bt_at a0 x4_1
              replace p8 := eq_true p8
              replace q8 := eq_true q8
              have p15 : 0 ≤ ((ji12) : Int) := of_decide_eq_true (by first | (with_reducible assumption) | assumption)
              have q15 : (ji12) < (a0.size : Int) := of_decide_eq_true (by first | (with_reducible assumption) | assumption)
              have hx15 := bt_at a0 (ji12)
              replace p15 := eq_true p15
              replace q15 := eq_true q15
              go_wp2_with (first | (go_at_call 65; (with_reducible refine (strings_IndexByte.calls (⟨#[48, 49, 50, 51, 52, 53, 54, 55, 56, 57, 97, 98, 99, 100, 101, 102]⟩ : ByteArray) (bt a0 (ji12)) t285 _ A16.out).mono ?_); rintro e w' ⟨rfl, ⟨nd, rfl⟩⟩; (try first | exact ⟨rfl, _, World.drewN_drewN _ _ _⟩ | exact ⟨rfl, _, Eq.trans (World.drewN_drewN _ _ _) (congrArg (World.drewN _) (Nat.add_assoc _ _ _))⟩); have p20 : 0 ≤ ((ji17) : Int) := of_decide_eq_true (by first | (with_reducible assumption) | assumption); have q20 : (ji17) < (a0.size : Int) := of_decide_eq_true (by first | (with_reducible assumption) | assumption); have hx20 := bt_at a0 (ji17); replace p20 := eq_true p20; replace q20 := eq_true q20) | (go_at_call 65; (with_reducible refine (strings_IndexByte.calls (⟨#[48, 49, 50, 51, 52, 53, 54, 55, 56, 57, 97, 98, 99, 100, 101, 102]⟩ : ByteArray) (bt a0 (ji17)) t286 _ A21.out).mono ?_); rintro e w' ⟨rfl, ⟨nd, rfl⟩⟩; (try first | exact ⟨rfl, _, World.drewN_drewN _ _ _⟩ | exact ⟨rfl, _, Eq.trans (World.drewN_drewN _ _ _) (congrArg (World.drewN _) (Nat.add_assoc _ _ _))⟩); obtain ⟨hcz25_0, hcz25_1, hfz25_0, hfz25_1⟩ := Rgn.c2 BK280.out))
              repeat (go_quiet (first | (go_at_call 65; (with_reducible refine (strings_IndexByte.calls (⟨#[48, 49, 50, 51, 52, 53, 54, 55, 56, 57, 97, 98, 99, 100, 101, 102]⟩ : ByteArray) (bt a0 (ji12)) t285 _ A16.out).mono ?_); rintro e w' ⟨rfl, ⟨nd, rfl⟩⟩; (try first | exact ⟨rfl, _, World.drewN_drewN _ _ _⟩ | exact ⟨rfl, _, Eq.trans (World.drewN_drewN _ _ _) (congrArg (World.drewN _) (Nat.add_assoc _ _ _))⟩); have p20 : 0 ≤ ((ji17) : Int) := of_decide_eq_true (by first | (with_reducible assumption) | assumption); have q20 : (ji17) < (a0.size : Int) := of_decide_eq_true (by first | (with_reducible assumption) | assumption); have hx20 := bt_at a0 (ji17); replace p20 := eq_true p20; replace q20 := eq_true q20) | (go_at_call 65; (with_reducible refine (strings_IndexByte.calls (⟨#[48, 49, 50, 51, 52, 53, 54, 55, 56, 57, 97, 98, 99, 100, 101, 102]⟩ : ByteArray) (bt a0 (ji17)) t286 _ A21.out).mono ?_); rintro e w' ⟨rfl, ⟨nd, rfl⟩⟩; (try first | exact ⟨rfl, _, World.drewN_drewN _ _ _⟩ | exact ⟨rfl, _, Eq.trans (World.drewN_drewN _ _ _) (congrArg (World.drewN _) (Nat.add_assoc _ _ _))⟩); obtain ⟨hcz25_0, hcz25_1, hfz25_0, hfz25_1⟩ := Rgn.c2 BK280.out)); try go_wp2_with (first | (go_at_call 65; (with_reducible refine (strings_IndexByte.calls (⟨#[48, 49, 50, 51, 52, 53, 54, 55, 56, 57, 97, 98, 99, 100, 101, 102]⟩ : ByteArray) (bt a0 (ji12)) t285 _ A16.out).mono ?_); rintro e w' ⟨rfl, ⟨nd, rfl⟩⟩; (try first | exact ⟨rfl, _, World.drewN_drewN _ _ _⟩ | exact ⟨rfl, _, Eq.trans (World.drewN_drewN _ _ _) (congrArg (World.drewN _) (Nat.add_assoc _ _ _))⟩); have p20 : 0 ≤ ((ji17) : Int) := of_decide_eq_true (by first | (with_reducible assumption) | assumption); have q20 : (ji17) < (a0.size : Int) := of_decide_eq_true (by first | (with_reducible assumption) | assumption); have hx20 := bt_at a0 (ji17); replace p20 := eq_true p20; replace q20 := eq_true q20) | (go_at_call 65; (with_reducible refine (strings_IndexByte.calls (⟨#[48, 49, 50, 51, 52, 53, 54, 55, 56, 57, 97, 98, 99, 100, 101, 102]⟩ : ByteArray) (bt a0 (ji17)) t286 _ A21.out).mono ?_); rintro e w' ⟨rfl, ⟨nd, rfl⟩⟩; (try first | exact ⟨rfl, _, World.drewN_drewN _ _ _⟩ | exact ⟨rfl, _, Eq.trans (World.drewN_drewN _ _ _) (congrArg (World.drewN _) (Nat.add_assoc _ _ _))⟩); obtain ⟨hcz25_0, hcz25_1, hfz25_0, hfz25_1⟩ := Rgn.c2 BK280.out)))
              refine bodyPost_ret (results_cell_row rfl _ _ gb280 77 #[.bool false, .string (⟨#[]⟩ : ByteArray)] (0, 0) _ rfl (by (with_reducible repeat (first | refine blk_drewN ?_ _ | refine blk_drew ?_ | refine blk_alloc ?_ _)); refine blk_put (cs := #[.bool false, .string x281001_1]) ?_ 1 _ rfl; (with_reducible repeat (first | refine blk_drewN ?_ _ | refine blk_drew ?_ | refine blk_alloc ?_ _)); refine blk_put (cs := #[.bool x281000_1, .string x281001_1]) ?_ 0 _ rfl; (with_reducible repeat (first | refine blk_drewN ?_ _ | refine blk_drew ?_ | refine blk_alloc ?_ _)); exact BK280.out) Tryd.underlying77 rfl (by kernel_rfl)) rfl ?_
              exact ⟨by first | rfl | (simp [errW_none, errW_some] <;> rfl) | (simp only [← hji12, ← hji17]; first | rfl | (simp [errW_none, errW_some] <;> rfl)) | (simp [*, errW_none, errW_some] <;> rfl), Rgn.bq HB.out⟩
             ·
              rw [if_neg c24] at H
              have c24b0 : decide (t286 < 0) = false := decide_eq_false c24
              clear c24
              by_cases c26 : x3_1.length < 140737488355328
              ·
               rw [if_pos c26] at H
               have LMc26 := Aside0.mk c26
               clear c26
               obtain ⟨y287, hy287⟩ : ∃ y_ : List Int, y_ = (x3_1 ++ [(Go.bits .or .i64 (wrap64 (t285 * 16)) t286) % 256]) := ⟨_, rfl⟩
               replace H : (impl_Unquote.l0 k1 a0 y287 (wrap64 ((ji17) + 1))) = some (r1, r2) := by first | (rw [hy287]; with_reducible exact H) | (have H2_ := (Option.bind_some _ _).symm.trans H; rw [hy287]; with_reducible exact H2_) | (have H2_ := (Option.bind_some _ _).symm.trans H; with_reducible exact H2_) | with_reducible exact H | (rw [hy287]; exact H) | exact H
               have Ny287 := Aside0.mk hy287
               clear hy287
               have H' := Aside0.mk H
               clear H
               have p8 : 0 ≤ (x4_1 : Int) := of_decide_eq_true (by first | (with_reducible assumption) | assumption)
               have q8 : x4_1 < (a0.size : Int) := of_decide_eq_true (by first | (with_reducible assumption) | assumption)
               have hx8 := bt_at a0 x4_1
               replace p8 := eq_true p8
               replace q8 := eq_true q8
               have p15 : 0 ≤ ((ji12) : Int) := of_decide_eq_true (by first | (with_reducible assumption) | assumption)
               have q15 : (ji12) < (a0.size : Int) := of_decide_eq_true (by first | (with_reducible assumption) | assumption)
               have hx15 := bt_at a0 (ji12)
               replace p15 := eq_true p15
               replace q15 := eq_true q15
               go_wp2_with (first | (go_at_call 65; (with_reducible refine (strings_IndexByte.calls (⟨#[48, 49, 50, 51, 52, 53, 54, 55, 56, 57, 97, 98, 99, 100, 101, 102]⟩ : ByteArray) (bt a0 (ji12)) t285 _ A16.out).mono ?_); rintro e w' ⟨rfl, ⟨nd, rfl⟩⟩; (try first | exact ⟨rfl, _, World.drewN_drewN _ _ _⟩ | exact ⟨rfl, _, Eq.trans (World.drewN_drewN _ _ _) (congrArg (World.drewN _) (Nat.add_assoc _ _ _))⟩); have p20 : 0 ≤ ((ji17) : Int) := of_decide_eq_true (by first | (with_reducible assumption) | assumption); have q20 : (ji17) < (a0.size : Int) := of_decide_eq_true (by first | (with_reducible assumption) | assumption); have hx20 := bt_at a0 (ji17); replace p20 := eq_true p20; replace q20 := eq_true q20) | (go_at_call 65; (with_reducible refine (strings_IndexByte.calls (⟨#[48, 49, 50, 51, 52, 53, 54, 55, 56, 57, 97, 98, 99, 100, 101, 102]⟩ : ByteArray) (bt a0 (ji17)) t286 _ A21.out).mono ?_); rintro e w' ⟨rfl, ⟨nd, rfl⟩⟩; (try first | exact ⟨rfl, _, World.drewN_drewN _ _ _⟩ | exact ⟨rfl, _, Eq.trans (World.drewN_drewN _ _ _) (congrArg (World.drewN _) (Nat.add_assoc _ _ _))⟩)) | ((with_reducible refine gate_builtin (b := .append) (xs := #[.tmp 49, .tmp 55]) rfl ?_); (try (refine gate_guard (by rfl) ?_; dsimp only)); at_builtin; refine Kd.R_append (Kd.int .u8) (w0 := w) w.heap.size rfl (.tmp 49) (.tmp 55) 22 5 (.int .u8 0) 1 rfl Tryd.underlying22 info5 rfl (by decide) (by omega) u3 x3_1 ((Go.bits .or .i64 (wrap64 (t285 * 16)) t286) % 256) [.int .u8 ((Go.bits .or .i64 (wrap64 (t285 * 16)) t286) % 256)] (fun _ => True) (fun _ => False) rfl rfl ?aP (fun _ hk => hk.elim) ?aF ?aO ?aB ?aS ?aL ?_; (case aP => exact rfl); (case aB => exact (Rgn.bq HB.out)); (case aF => exact (fun _ _ => trivial)); (case aO => exact (Rgn.rq HO_3.out)); (case aS => exact (below_size (Rgn.bq HB.out))); (case aL => have := LMc26.out; omega); intro v288 w27 ho hb hg hat; rw [← Ny287.out] at ho; replace BK280 := Aside0.mk (Rgn.bg BK280.out hg (Kd.R_ne HO_3.out BK280.out (by decide))); replace HB := Aside0.mk (hb); have HO289 := Aside0.mk (ho); clear HO_3; clear ho hb hg hat))
               repeat (go_quiet (first | (go_at_call 65; (with_reducible refine (strings_IndexByte.calls (⟨#[48, 49, 50, 51, 52, 53, 54, 55, 56, 57, 97, 98, 99, 100, 101, 102]⟩ : ByteArray) (bt a0 (ji12)) t285 _ A16.out).mono ?_); rintro e w' ⟨rfl, ⟨nd, rfl⟩⟩; (try first | exact ⟨rfl, _, World.drewN_drewN _ _ _⟩ | exact ⟨rfl, _, Eq.trans (World.drewN_drewN _ _ _) (congrArg (World.drewN _) (Nat.add_assoc _ _ _))⟩); have p20 : 0 ≤ ((ji17) : Int) := of_decide_eq_true (by first | (with_reducible assumption) | assumption); have q20 : (ji17) < (a0.size : Int) := of_decide_eq_true (by first | (with_reducible assumption) | assumption); have hx20 := bt_at a0 (ji17); replace p20 := eq_true p20; replace q20 := eq_true q20) | (go_at_call 65; (with_reducible refine (strings_IndexByte.calls (⟨#[48, 49, 50, 51, 52, 53, 54, 55, 56, 57, 97, 98, 99, 100, 101, 102]⟩ : ByteArray) (bt a0 (ji17)) t286 _ A21.out).mono ?_); rintro e w' ⟨rfl, ⟨nd, rfl⟩⟩; (try first | exact ⟨rfl, _, World.drewN_drewN _ _ _⟩ | exact ⟨rfl, _, Eq.trans (World.drewN_drewN _ _ _) (congrArg (World.drewN _) (Nat.add_assoc _ _ _))⟩))); try go_wp2_with (first | (go_at_call 65; (with_reducible refine (strings_IndexByte.calls (⟨#[48, 49, 50, 51, 52, 53, 54, 55, 56, 57, 97, 98, 99, 100, 101, 102]⟩ : ByteArray) (bt a0 (ji12)) t285 _ A16.out).mono ?_); rintro e w' ⟨rfl, ⟨nd, rfl⟩⟩; (try first | exact ⟨rfl, _, World.drewN_drewN _ _ _⟩ | exact ⟨rfl, _, Eq.trans (World.drewN_drewN _ _ _) (congrArg (World.drewN _) (Nat.add_assoc _ _ _))⟩); have p20 : 0 ≤ ((ji17) : Int) := of_decide_eq_true (by first | (with_reducible assumption) | assumption); have q20 : (ji17) < (a0.size : Int) := of_decide_eq_true (by first | (with_reducible assumption) | assumption); have hx20 := bt_at a0 (ji17); replace p20 := eq_true p20; replace q20 := eq_true q20) | (go_at_call 65; (with_reducible refine (strings_IndexByte.calls (⟨#[48, 49, 50, 51, 52, 53, 54, 55, 56, 57, 97, 98, 99, 100, 101, 102]⟩ : ByteArray) (bt a0 (ji17)) t286 _ A21.out).mono ?_); rintro e w' ⟨rfl, ⟨nd, rfl⟩⟩; (try first | exact ⟨rfl, _, World.drewN_drewN _ _ _⟩ | exact ⟨rfl, _, Eq.trans (World.drewN_drewN _ _ _) (congrArg (World.drewN _) (Nat.add_assoc _ _ _))⟩)) | ((with_reducible refine gate_builtin (b := .append) (xs := #[.tmp 49, .tmp 55]) rfl ?_); (try (refine gate_guard (by rfl) ?_; dsimp only)); at_builtin; refine Kd.R_append (Kd.int .u8) (w0 := w) w.heap.size rfl (.tmp 49) (.tmp 55) 22 5 (.int .u8 0) 1 rfl Tryd.underlying22 info5 rfl (by decide) (by omega) u3 x3_1 ((Go.bits .or .i64 (wrap64 (t285 * 16)) t286) % 256) [.int .u8 ((Go.bits .or .i64 (wrap64 (t285 * 16)) t286) % 256)] (fun _ => True) (fun _ => False) rfl rfl ?aP (fun _ hk => hk.elim) ?aF ?aO ?aB ?aS ?aL ?_; (case aP => exact rfl); (case aB => exact (Rgn.bq HB.out)); (case aF => exact (fun _ _ => trivial)); (case aO => exact (Rgn.rq HO_3.out)); (case aS => exact (below_size (Rgn.bq HB.out))); (case aL => have := LMc26.out; omega); intro v288 w27 ho hb hg hat; rw [← Ny287.out] at ho; replace BK280 := Aside0.mk (Rgn.bg BK280.out hg (Kd.R_ne HO_3.out BK280.out (by decide))); replace HB := Aside0.mk (hb); have HO289 := Aside0.mk (ho); clear HO_3; clear ho hb hg hat)))
               go_roundg k1
               case measure => have := HK1.out; omega
               case rel => exact ⟨(y287), (wrap64 ((ji17) + 1)), (x281000_1), (x281001_1), (by first | rfl | (simp; done) | (simp only [← hji17] <;> (first | rfl | simp)) | (simp [*]; done)), H', ⟨by have := HK1.out; omega⟩, ⟨Rgn.rq HO289.out⟩, ⟨Rgn.kb BK280.out⟩, ⟨Rgn.bq HB.out⟩⟩
              ·
               rw [if_neg c26] at H
               exact absurd H (by simp)
           ·
            rw [if_neg c19] at H
            exact absurd H (by simp)
          ·
           rw [if_neg c18] at H
           exact absurd H (by simp)
         ·
          rw [if_neg c14] at H
          exact absurd H (by simp)
        ·
         rw [if_neg c13] at H
         exact absurd H (by simp)
      ·
       rw [if_neg c9] at H
       have c9b0 : ((bt a0 x4_1) == 37) = false := beq_eq_false_iff_ne.mpr c9
       have c9b1 : ((bt a0 x4_1) != 37) = true := bne_iff_ne.mpr c9
       by_cases c29 : x3_1.length < 140737488355328
       ·
        rw [if_pos c29] at H
        have LMc29 := Aside0.mk c29
        clear c29
        obtain ⟨y282, hy282⟩ : ∃ y_ : List Int, y_ = (x3_1 ++ [bt a0 x4_1]) := ⟨_, rfl⟩
        replace H : (impl_Unquote.l0 k1 a0 y282 (wrap64 (x4_1 + 1))) = some (r1, r2) := by first | (rw [hy282]; with_reducible exact H) | (have H2_ := (Option.bind_some _ _).symm.trans H; rw [hy282]; with_reducible exact H2_) | (have H2_ := (Option.bind_some _ _).symm.trans H; with_reducible exact H2_) | with_reducible exact H | (rw [hy282]; exact H) | exact H
        have Ny282 := Aside0.mk hy282
        clear hy282
        have H' := Aside0.mk H
        clear H
        have p8 : 0 ≤ (x4_1 : Int) := of_decide_eq_true (by first | (with_reducible assumption) | assumption)
        have q8 : x4_1 < (a0.size : Int) := of_decide_eq_true (by first | (with_reducible assumption) | assumption)
        have hx8 := bt_at a0 x4_1
        replace p8 := eq_true p8
        replace q8 := eq_true q8
        have p28 : 0 ≤ (x4_1 : Int) := of_decide_eq_true (by first | (with_reducible assumption) | assumption)
        have q28 : x4_1 < (a0.size : Int) := of_decide_eq_true (by first | (with_reducible assumption) | assumption)
        have hx28 := bt_at a0 x4_1
        replace p28 := eq_true p28
        replace q28 := eq_true q28
        go_wp2_with (first | ((with_reducible refine gate_builtin (b := .append) (xs := #[.tmp 20, .tmp 24]) rfl ?_); (try (refine gate_guard (by rfl) ?_; dsimp only)); at_builtin; refine Kd.R_append (Kd.int .u8) (w0 := w) w.heap.size rfl (.tmp 20) (.tmp 24) 22 5 (.int .u8 0) 1 rfl Tryd.underlying22 info5 rfl (by decide) (by omega) u3 x3_1 (bt a0 x4_1) [.int .u8 (bt a0 x4_1)] (fun _ => True) (fun _ => False) rfl rfl ?aP (fun _ hk => hk.elim) ?aF ?aO ?aB ?aS ?aL ?_; (case aP => exact rfl); (case aB => exact (Rgn.bq HB.out)); (case aF => exact (fun _ _ => trivial)); (case aO => exact (Rgn.rq HO_3.out)); (case aS => exact (below_size (Rgn.bq HB.out))); (case aL => have := LMc29.out; omega); intro v283 w30 ho hb hg hat; rw [← Ny282.out] at ho; replace BK280 := Aside0.mk (Rgn.bg BK280.out hg (Kd.R_ne HO_3.out BK280.out (by decide))); replace HB := Aside0.mk (hb); have HO284 := Aside0.mk (ho); clear HO_3; clear ho hb hg hat))
        repeat (go_quiet (fail); try go_wp2_with (first | ((with_reducible refine gate_builtin (b := .append) (xs := #[.tmp 20, .tmp 24]) rfl ?_); (try (refine gate_guard (by rfl) ?_; dsimp only)); at_builtin; refine Kd.R_append (Kd.int .u8) (w0 := w) w.heap.size rfl (.tmp 20) (.tmp 24) 22 5 (.int .u8 0) 1 rfl Tryd.underlying22 info5 rfl (by decide) (by omega) u3 x3_1 (bt a0 x4_1) [.int .u8 (bt a0 x4_1)] (fun _ => True) (fun _ => False) rfl rfl ?aP (fun _ hk => hk.elim) ?aF ?aO ?aB ?aS ?aL ?_; (case aP => exact rfl); (case aB => exact (Rgn.bq HB.out)); (case aF => exact (fun _ _ => trivial)); (case aO => exact (Rgn.rq HO_3.out)); (case aS => exact (below_size (Rgn.bq HB.out))); (case aL => have := LMc29.out; omega); intro v283 w30 ho hb hg hat; rw [← Ny282.out] at ho; replace BK280 := Aside0.mk (Rgn.bg BK280.out hg (Kd.R_ne HO_3.out BK280.out (by decide))); replace HB := Aside0.mk (hb); have HO284 := Aside0.mk (ho); clear HO_3; clear ho hb hg hat)))
        go_roundg k1
        case measure => have := HK1.out; omega
        case rel => exact ⟨(y282), (wrap64 (x4_1 + 1)), (x281000_1), (x281001_1), (by first | rfl | (simp; done) | (simp [*]; done)), H', ⟨by have := HK1.out; omega⟩, ⟨Rgn.rq HO284.out⟩, ⟨Rgn.kb BK280.out⟩, ⟨Rgn.bq HB.out⟩⟩
       ·
        rw [if_neg c29] at H
        exact absurd H (by simp)
     ·
      rw [if_neg c7] at H
      exact absurd H (by simp)
    ·
     rw [if_neg c6] at H
     have c6b0 : decide (x4_1 < (a0.size : Int)) = false := decide_eq_false c6
     clear c6
     by_cases c31 : (x3_1.length : Int) = 0
     ·
      rw [if_pos c31] at H
      have c31b0 : ((x3_1.length : Int) == 0) = true := beq_iff_eq.mpr c31
      have c31b1 : ((x3_1.length : Int) != 0) = false := bne_eq_false_iff_eq.mpr c31
      clear c31
      simp only [Option.some.injEq, Prod.mk.injEq] at H
      obtain ⟨rfl, rfl⟩ := H
      obtain ⟨Ao32, co32, eo32⟩ := Kd.R_slice HO_3.out
      subst eo32
      have hcz33_0 := Rgn.cz0 BK280.out
      have hcz33_1 := Rgn.cz1 BK280.out
      have hfz33_0 := blk_frozen BK280.out 0
      have hfz33_1 := blk_frozen BK280.out 1
      go_wp2
      repeat (go_quiet (fail); try go_wp2)
      refine bodyPost_ret (results_cell_row rfl _ _ gb280 77 #[.bool false, .string (⟨#[]⟩ : ByteArray)] (0, 0) _ rfl (by (with_reducible repeat (first | refine blk_drewN ?_ _ | refine blk_drew ?_ | refine blk_alloc ?_ _)); refine blk_put (cs := #[.bool false, .string x281001_1]) ?_ 1 _ rfl; (with_reducible repeat (first | refine blk_drewN ?_ _ | refine blk_drew ?_ | refine blk_alloc ?_ _)); refine blk_put (cs := #[.bool x281000_1, .string x281001_1]) ?_ 0 _ rfl; (with_reducible repeat (first | refine blk_drewN ?_ _ | refine blk_drew ?_ | refine blk_alloc ?_ _)); exact BK280.out) Tryd.underlying77 rfl (by kernel_rfl)) rfl ?_
      exact ⟨by first | rfl | (simp [errW_none, errW_some] <;> rfl) | (simp [*, errW_none, errW_some] <;> rfl), Rgn.bq HB.out⟩
     ·
      rw [if_neg c31] at H
      have c31b0 : ((x3_1.length : Int) == 0) = false := beq_eq_false_iff_ne.mpr c31
      have c31b1 : ((x3_1.length : Int) != 0) = true := bne_iff_ne.mpr c31
      have c31b2 : ¬ (x3_1 = []) := fun h_ => c31 (by rw [h_]; rfl)
      by_cases c34 : (x3_1.length : Int) > 65536
      ·
       rw [if_pos c34] at H
       have c34b0 : decide (65536 < (x3_1.length : Int)) = true := decide_eq_true c34
       have c34b1 : decide (65536 < x3_1.length) = true := decide_eq_true (by omega)
       clear c34
       simp only [Option.some.injEq, Prod.mk.injEq] at H
       obtain ⟨rfl, rfl⟩ := H
       obtain ⟨Ao35, co35, eo35⟩ := Kd.R_slice HO_3.out
       subst eo35
       have hcz36_0 := Rgn.cz0 BK280.out
       have hcz36_1 := Rgn.cz1 BK280.out
       have hfz36_0 := blk_frozen BK280.out 0
       have hfz36_1 := blk_frozen BK280.out 1
       go_wp2
       repeat (go_quiet (fail); try go_wp2)
       refine bodyPost_ret (results_cell_row rfl _ _ gb280 77 #[.bool false, .string (⟨#[]⟩ : ByteArray)] (0, 0) _ rfl (by (with_reducible repeat (first | refine blk_drewN ?_ _ | refine blk_drew ?_ | refine blk_alloc ?_ _)); refine blk_put (cs := #[.bool false, .string x281001_1]) ?_ 1 _ rfl; (with_reducible repeat (first | refine blk_drewN ?_ _ | refine blk_drew ?_ | refine blk_alloc ?_ _)); refine blk_put (cs := #[.bool x281000_1, .string x281001_1]) ?_ 0 _ rfl; (with_reducible repeat (first | refine blk_drewN ?_ _ | refine blk_drew ?_ | refine blk_alloc ?_ _)); exact BK280.out) Tryd.underlying77 rfl (by kernel_rfl)) rfl ?_
       exact ⟨by first | rfl | (simp [errW_none, errW_some] <;> rfl) | (simp [*, errW_none, errW_some] <;> rfl), Rgn.bq HB.out⟩
      ·
       rw [if_neg c34] at H
       have c34b0 : decide (65536 < (x3_1.length : Int)) = false := decide_eq_false c34
       have c34b1 : decide (65536 < x3_1.length) = false := decide_eq_false (by omega)
       clear c34
       replace H := Option.bind_eq_some_iff.mp H
       obtain ⟨t281, A370, H⟩ := H
       replace H : (if t281.toList = a0.toList then (some (true, strOfNums x3_1)) else (some (false, (⟨#[]⟩ : ByteArray)))) = some (r1, r2) := H
       have A37 := Aside0.mk A370
       clear A370
       by_cases c38 : t281.toList = a0.toList
       ·
        rw [if_pos c38] at H
        have c38b0 : (t281.toList == a0.toList) = true := beq_iff_eq.mpr c38
        have c38b1 : (t281.toList != a0.toList) = false := bne_eq_false_iff_eq.mpr c38
        clear c38
        simp only [Option.some.injEq, Prod.mk.injEq] at H
        obtain ⟨rfl, rfl⟩ := H
        obtain ⟨Ao39, co39, eo39⟩ := Kd.R_slice HO_3.out
        subst eo39
        have hcv40 := own_string (P := Tryd.prog) Tryd.underlying22 Tryd.underlying5 Tryd.underlying9 (Kd.own_of_R HO_3.out)
        go_wp2_with (first | (go_at_call 54; (with_reducible refine (impl_Quote.calls (strOfNums x3_1) t281 _ A37.out).mono ?_); rintro e w41 ⟨rfl, hb⟩; replace HO_3 := Aside0.mk (Kd.R_below (Rgn.rq HO_3.out) hb); replace BK280 := Aside0.mk (Rgn.bb BK280.out hb); replace HB := Aside0.mk (below_step (Rgn.bq HB.out) hb); (try clear hb); have hcv42 := own_string (P := Tryd.prog) Tryd.underlying22 Tryd.underlying5 Tryd.underlying9 (Kd.own_of_R HO_3.out); obtain ⟨hcz43_0, hcz43_1, hfz43_0, hfz43_1⟩ := Rgn.c2 BK280.out))
        repeat (go_quiet (fail); try go_wp2_with (first | (go_at_call 54; (with_reducible refine (impl_Quote.calls (strOfNums x3_1) t281 _ A37.out).mono ?_); rintro e w41 ⟨rfl, hb⟩; replace HO_3 := Aside0.mk (Kd.R_below (Rgn.rq HO_3.out) hb); replace BK280 := Aside0.mk (Rgn.bb BK280.out hb); replace HB := Aside0.mk (below_step (Rgn.bq HB.out) hb); (try clear hb); have hcv42 := own_string (P := Tryd.prog) Tryd.underlying22 Tryd.underlying5 Tryd.underlying9 (Kd.own_of_R HO_3.out); obtain ⟨hcz43_0, hcz43_1, hfz43_0, hfz43_1⟩ := Rgn.c2 BK280.out)))
        refine bodyPost_ret (results_cell_row rfl _ _ gb280 77 #[.bool true, .string (strOfNums x3_1)] (0, 0) _ rfl (by (with_reducible repeat (first | refine blk_drewN ?_ _ | refine blk_drew ?_ | refine blk_alloc ?_ _)); refine blk_put (cs := #[.bool true, .string x281001_1]) ?_ 1 _ rfl; (with_reducible repeat (first | refine blk_drewN ?_ _ | refine blk_drew ?_ | refine blk_alloc ?_ _)); refine blk_put (cs := #[.bool x281000_1, .string x281001_1]) ?_ 0 _ rfl; (with_reducible repeat (first | refine blk_drewN ?_ _ | refine blk_drew ?_ | refine blk_alloc ?_ _)); exact BK280.out) Tryd.underlying77 rfl (by kernel_rfl)) rfl ?_
        exact ⟨by first | rfl | (simp [errW_none, errW_some] <;> rfl) | (simp [*, errW_none, errW_some] <;> rfl), Rgn.bq HB.out⟩
       ·
        rw [if_neg c38] at H
        have c38b0 : (t281.toList == a0.toList) = false := beq_eq_false_iff_ne.mpr c38
        have c38b1 : (t281.toList != a0.toList) = true := bne_iff_ne.mpr c38
        simp only [Option.some.injEq, Prod.mk.injEq] at H
        obtain ⟨rfl, rfl⟩ := H
        obtain ⟨Ao44, co44, eo44⟩ := Kd.R_slice HO_3.out
        subst eo44
        have hcv45 := own_string (P := Tryd.prog) Tryd.underlying22 Tryd.underlying5 Tryd.underlying9 (Kd.own_of_R HO_3.out)
        go_wp2_with (first | (go_at_call 54; (with_reducible refine (impl_Quote.calls (strOfNums x3_1) t281 _ A37.out).mono ?_); rintro e w46 ⟨rfl, hb⟩; replace HO_3 := Aside0.mk (Kd.R_below (Rgn.rq HO_3.out) hb); replace BK280 := Aside0.mk (Rgn.bb BK280.out hb); replace HB := Aside0.mk (below_step (Rgn.bq HB.out) hb); (try clear hb); obtain ⟨hcz47_0, hcz47_1, hfz47_0, hfz47_1⟩ := Rgn.c2 BK280.out))
        repeat (go_quiet (fail); try go_wp2_with (first | (go_at_call 54; (with_reducible refine (impl_Quote.calls (strOfNums x3_1) t281 _ A37.out).mono ?_); rintro e w46 ⟨rfl, hb⟩; replace HO_3 := Aside0.mk (Kd.R_below (Rgn.rq HO_3.out) hb); replace BK280 := Aside0.mk (Rgn.bb BK280.out hb); replace HB := Aside0.mk (below_step (Rgn.bq HB.out) hb); (try clear hb); obtain ⟨hcz47_0, hcz47_1, hfz47_0, hfz47_1⟩ := Rgn.c2 BK280.out)))
        refine bodyPost_ret (results_cell_row rfl _ _ gb280 77 #[.bool false, .string (⟨#[]⟩ : ByteArray)] (0, 0) _ rfl (by (with_reducible repeat (first | refine blk_drewN ?_ _ | refine blk_drew ?_ | refine blk_alloc ?_ _)); refine blk_put (cs := #[.bool false, .string x281001_1]) ?_ 1 _ rfl; (with_reducible repeat (first | refine blk_drewN ?_ _ | refine blk_drew ?_ | refine blk_alloc ?_ _)); refine blk_put (cs := #[.bool x281000_1, .string x281001_1]) ?_ 0 _ rfl; (with_reducible repeat (first | refine blk_drewN ?_ _ | refine blk_drew ?_ | refine blk_alloc ?_ _)); exact BK280.out) Tryd.underlying77 rfl (by kernel_rfl)) rfl ?_
        exact ⟨by first | rfl | (simp [errW_none, errW_some] <;> rfl) | (simp [*, errW_none, errW_some] <;> rfl), Rgn.bq HB.out⟩

/-! ### impl_in: function 35 -/
def impl_in.f (a0 : Int) (a1 : Int) (a2 : Int) : Option (Bool) := if a0 ≥ a1 then (some (decide (a0 ≤ a2))) else (some false)
set_option maxHeartbeats 8000000 in
set_option maxRecDepth 100000 in
theorem impl_in.calls (a0 : Int) (a1 : Int) (a2 : Int) (r : Bool) (w : World) (h : impl_in.f a0 a1 a2 = some r) :
  Calls Tryd.prog 35 #[.int .i64 a0, .int .i64 a1, .int .i64 a2] w fun e w' => e = .returned (.bool r) ∧ Drawn0 w w' := by
 have H : (if a0 ≥ a1 then (some (decide (a0 ≤ a2))) else (some false)) = some r := h
 clear h
 by_cases c4 : a0 ≥ a1
 ·
  rw [if_pos c4] at H
  have c4b0 : decide (a1 ≤ a0) = true := decide_eq_true c4
  clear c4
  obtain rfl := Option.some.inj H
  go_enter Tryd.func35, Tryd.ntmps35
  go_wp2
  go_ret
  exact ⟨by first | rfl | (simp; done) | (simp [*]; done), by repeat (first | exact Drawn0.refl _ | apply Drawn0.step)⟩
 ·
  rw [if_neg c4] at H
  have c4b0 : decide (a1 ≤ a0) = false := decide_eq_false c4
  clear c4
  obtain rfl := Option.some.inj H
  go_enter Tryd.func35, Tryd.ntmps35
  go_wp2
  go_ret
  exact ⟨by first | rfl | (simp; done) | (simp [*]; done), by repeat (first | exact Drawn0.refl _ | apply Drawn0.step)⟩

end Go.Proofs.YtkehfdadplpaeaaDoor.PFnExactParseLine
