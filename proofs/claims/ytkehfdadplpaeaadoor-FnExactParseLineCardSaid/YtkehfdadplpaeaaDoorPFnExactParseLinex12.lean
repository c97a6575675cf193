-- written by a program of this session (wip/src/print2.py)
import Derived.Test.YtkehfdadplpaeaaDoorPFnExactParseLinex0
import Derived.Test.YtkehfdadplpaeaaDoorPFnExactParseLinex7
import Derived.Test.YtkehfdadplpaeaaDoorPFnExactParseLinex8
import Derived.Test.YtkehfdadplpaeaaDoorPFnExactParseLinex10
import Derived.Test.YtkehfdadplpaeaaDoorPFnExactParseLinex11
namespace Go.Proofs.YtkehfdadplpaeaaDoor.PFnExactParseLine
open Go.RowKit Go.Proofs.YtkehfdadplpaeaaDoorW.PrintWords Go.Proofs.YtkehfdadplpaeaaDoorW.PrintLast Go.Proofs.YtkehfdadplpaeaaDoorW.PrintMore
attribute [local go_sem] max2_int min2_int max_two min_two max_three min_three max_four min_four   -- for this text's walks alone
set_option linter.unusedVariables false
set_option linter.unusedSimpArgs false

/-! ### laws_heldInt64S: function 39 -/
def laws_heldInt64S.l0 : Nat → List Int → Int → Int → Option (Int)
 | 0, _, _, _ => none
 | k + 1, x0, x1, x5 => if x5 < (x0.length : Int) then (if 0 ≤ x5 then (if (rd x0 x5) = x1 then (laws_heldInt64S.l0 k x0 (wrap64 (x1 + 1)) (wrap64 (x5 + 1))) else (some (-1))) else (none)) else (some x1)
def laws_heldInt64S.f (k : Nat) (l0 : List Int) (a1 : Int) : Option (Int) := laws_heldInt64S.l0 k l0 a1 0
set_option maxHeartbeats 8000000 in
set_option maxRecDepth 100000 in
theorem laws_heldInt64S.calls (k : Nat) (A0 : Option Addr) (c0 : Nat) (l0 : List Int) (a1 : Int) (r : Int) (w : World) (hr0 : Kd.C (Kd.int .i64) w A0 l0.length l0) (hc0 : l0.length ≤ c0) (h : laws_heldInt64S.f k l0 a1 = some r) :
  Calls Tryd.prog 39 #[.slice A0 l0.length c0, .int .i64 a1] w fun e w' => e = .returned (.int .i64 r) ∧ Drawn0 w w' := by
 have HR0 := Aside0.mk hr0
 have HC0 := Aside0.mk hc0
 clear hr0 hc0
 have H : (laws_heldInt64S.l0 k l0 a1 0) = some r := h
 clear h
 have H' := Aside0.mk H
 clear H
 go_enter Tryd.func39, Tryd.ntmps39
 go_wp2
 go_loopg [1, 5] k (fun kq v1 v5 w' => ∃ (x1_1 : Int) (x5_1 : Int), v1 = .int .i64 x1_1 ∧ v5 = .int .i64 x5_1 ∧ Aside0 (laws_heldInt64S.l0 kq l0 x1_1 x5_1 = some r) ∧ Aside0 (kq ≤ k) ∧ Drawn0 w w')
 case atStart => exact ⟨(a1), (0), (by first | rfl | (simp; done) | (simp [*]; done)), (by first | rfl | (simp; done) | (simp [*]; done)), H', ⟨Nat.le_refl _⟩, by repeat (first | exact Drawn0.refl _ | apply Drawn0.step)⟩
 case round =>
  clear H'
  obtain ⟨x1_1, x5_1, rfl, rfl, HA, HK1, ⟨m1, rfl⟩⟩ := hrel
  cases gk with
  | zero => exact absurd HA.out (by simp [laws_heldInt64S.l0])
  | succ k1 =>
   have H := HA.out
   clear HA
   simp only [laws_heldInt64S.l0] at H
   by_cases c3 : x5_1 < (l0.length : Int)
   ·
    rw [if_pos c3] at H
    have c3b0 : decide (x5_1 < (l0.length : Int)) = true := decide_eq_true c3
    clear c3
    by_cases c4 : 0 ≤ x5_1
    ·
     rw [if_pos c4] at H
     have c4b0 : decide (0 ≤ x5_1) = true := decide_eq_true c4
     clear c4
     by_cases c5 : (rd l0 x5_1) = x1_1
     ·
      rw [if_pos c5] at H
      have c5b0 : ((rd l0 x5_1) == x1_1) = true := beq_iff_eq.mpr c5
      have c5b1 : ((rd l0 x5_1) != x1_1) = false := bne_eq_false_iff_eq.mpr c5
      clear c5
      have H' := Aside0.mk H
      clear H
      have p338 : 0 ≤ (x5_1 : Int) := of_decide_eq_true (by first | (with_reducible assumption) | assumption)
      have q338 : x5_1 < (l0.length : Int) := of_decide_eq_true (by first | (with_reducible assumption) | assumption)
      obtain ⟨ad338, e338, hx338_0⟩ := Kd.at_int HR0.out x5_1 p338 q338
      cases e338
      replace p338 := eq_true p338
      replace q338 := eq_true q338
      go_wp2
      go_roundg k1
      case measure => have := HK1.out; omega
      case rel => exact ⟨(wrap64 (x1_1 + 1)), (wrap64 (x5_1 + 1)), (by first | rfl | (simp; done) | (simp [*]; done)), (by first | rfl | (simp; done) | (simp [*]; done)), H', ⟨by have := HK1.out; omega⟩, by repeat (first | exact Drawn0.refl _ | apply Drawn0.step)⟩
     ·
      rw [if_neg c5] at H
      have c5b0 : ((rd l0 x5_1) == x1_1) = false := beq_eq_false_iff_ne.mpr c5
      have c5b1 : ((rd l0 x5_1) != x1_1) = true := bne_iff_ne.mpr c5
      obtain rfl := Option.some.inj H
      have p338 : 0 ≤ (x5_1 : Int) := of_decide_eq_true (by first | (with_reducible assumption) | assumption)
      have q338 : x5_1 < (l0.length : Int) := of_decide_eq_true (by first | (with_reducible assumption) | assumption)
      obtain ⟨ad338, e338, hx338_0⟩ := Kd.at_int HR0.out x5_1 p338 q338
      cases e338
      replace p338 := eq_true p338
      replace q338 := eq_true q338
      go_wp2
      go_ret
      exact ⟨by first | rfl | (simp; done) | (simp [*]; done), by repeat (first | exact Drawn0.refl _ | apply Drawn0.step)⟩
    ·
     rw [if_neg c4] at H
     exact absurd H (by simp)
   ·
    rw [if_neg c3] at H
    have c3b0 : decide (x5_1 < (l0.length : Int)) = false := decide_eq_false c3
    clear c3
    obtain rfl := Option.some.inj H
    go_wp2
    go_ret
    exact ⟨by first | rfl | (simp; done) | (simp [*]; done), by repeat (first | exact Drawn0.refl _ | apply Drawn0.step)⟩

/-! ### laws_heldLine: function 13 -/
def laws_heldLine.f (k : Nat) (a0_0 : Int) (a0_1 : Int) (a0_2 : ByteArray) (a0_3 : ByteArray) (a0_4 : Int) (a0_5 : Int) (a0_6 : Int) (a0_7 : ByteArray) (l0_8 : List Int) (a1 : Int) : Option (Int) := (laws_heldInt64S.f k l0_8 a1).bind fun t340 => (if t340 < 0 then (some (-1)) else (some t340))
set_option maxHeartbeats 8000000 in
set_option maxRecDepth 100000 in
theorem laws_heldLine.calls (k : Nat) (a0_0 : Int) (a0_1 : Int) (a0_2 : ByteArray) (a0_3 : ByteArray) (a0_4 : Int) (a0_5 : Int) (a0_6 : Int) (a0_7 : ByteArray) (A0_8 : Option Addr) (c0_8 : Nat) (l0_8 : List Int) (a1 : Int) (r : Int) (w : World) (hr0_8 : Kd.C (Kd.int .i64) w A0_8 l0_8.length l0_8) (hc0_8 : l0_8.length ≤ c0_8) (h : laws_heldLine.f k a0_0 a0_1 a0_2 a0_3 a0_4 a0_5 a0_6 a0_7 l0_8 a1 = some r) :
  Calls Tryd.prog 13 #[.agg #[.int .i64 a0_0, .int .i64 a0_1, .string a0_2, .string a0_3, .int .i64 a0_4, .int .i64 a0_5, .int .i64 a0_6, .string a0_7, .slice A0_8 l0_8.length c0_8], .int .i64 a1] w fun e w' => e = .returned (.int .i64 r) ∧ Below w.heap.size w w' := by
 have hu27 := Tryd.underlying27
 have HR0_8 := Aside0.mk hr0_8
 have HC0_8 := Aside0.mk hc0_8
 clear hr0_8 hc0_8
 have HB := Aside0.mk (Below.refl w.heap.size w)
 have H : ((laws_heldInt64S.f k l0_8 a1).bind fun t340 => (if t340 < 0 then (some (-1)) else (some t340))) = some r := h
 clear h
 replace H := Option.bind_eq_some_iff.mp H
 obtain ⟨t340, A30, H⟩ := H
 replace H : (if t340 < 0 then (some (-1)) else (some t340)) = some r := H
 have A3 := Aside0.mk A30
 clear A30
 by_cases c4 : t340 < 0
 ·
  rw [if_pos c4] at H
  have c4b0 : decide (t340 < 0) = true := decide_eq_true c4
  clear c4
  obtain rfl := Option.some.inj H
  go_enter Tryd.func13, Tryd.ntmps13
  go_wp2_with (first | ((with_reducible refine gate_dst (N := 2) rfl ?_); refine Rgn.bx 2 #[.int .i64 a0_0, .int .i64 a0_1, .string a0_2, .string a0_3, .int .i64 a0_4, .int .i64 a0_5, .int .i64 a0_6, .string a0_7, .slice A0_8 l0_8.length c0_8] 27 ?_; intro gb339 hg w5 hbox hb; have BK339 := Aside0.mk (hbox); have GW339 := Aside0.mk (Rgn.ge hg HB.out); have GE339 := Aside0.mk (Rgn.ge hg HB.out); replace HB := Aside0.mk (below_step (Rgn.bq HB.out) hb); clear hb hbox hg; obtain ⟨hcz6_0, hcz6_1, hcz6_2, hcz6_3, hcz6_4, hcz6_5, hcz6_6, hcz6_7, hcz6_8, hfz6_0, hfz6_1, hfz6_2, hfz6_3, hfz6_4, hfz6_5, hfz6_6, hfz6_7, hfz6_8⟩ := Rgn.cf9 BK339.out) | ((with_reducible refine gate_callee (f := 39) rfl ?_); refine Rgn.gl (some 8) Tryd.func39 #[.slice A0_8 l0_8.length c0_8, .int .i64 a1] ?_; (with_reducible refine (laws_heldInt64S.calls k _ _ l0_8 a1 t340 _ ?side1 ?side2 A3.out).mono ?_); (case side1 => exact Rgn.cq (Kd.C_below HR0_8.out HB.out)); (case side2 => exact HC0_8.out); rintro e w' ⟨rfl, ⟨nd, rfl⟩⟩; refine ⟨_, rfl, ?_⟩))
  go_ret
  exact ⟨by first | rfl | (simp [errW_none, errW_some] <;> rfl) | (simp [*, errW_none, errW_some] <;> rfl), Rgn.bq HB.out⟩
 ·
  rw [if_neg c4] at H
  have c4b0 : decide (t340 < 0) = false := decide_eq_false c4
  clear c4
  obtain rfl := Option.some.inj H
  go_enter Tryd.func13, Tryd.ntmps13
  go_wp2_with (first | ((with_reducible refine gate_dst (N := 2) rfl ?_); refine Rgn.bx 2 #[.int .i64 a0_0, .int .i64 a0_1, .string a0_2, .string a0_3, .int .i64 a0_4, .int .i64 a0_5, .int .i64 a0_6, .string a0_7, .slice A0_8 l0_8.length c0_8] 27 ?_; intro gb339 hg w7 hbox hb; have BK339 := Aside0.mk (hbox); have GW339 := Aside0.mk (Rgn.ge hg HB.out); have GE339 := Aside0.mk (Rgn.ge hg HB.out); replace HB := Aside0.mk (below_step (Rgn.bq HB.out) hb); clear hb hbox hg; obtain ⟨hcz8_0, hcz8_1, hcz8_2, hcz8_3, hcz8_4, hcz8_5, hcz8_6, hcz8_7, hcz8_8, hfz8_0, hfz8_1, hfz8_2, hfz8_3, hfz8_4, hfz8_5, hfz8_6, hfz8_7, hfz8_8⟩ := Rgn.cf9 BK339.out) | ((with_reducible refine gate_callee (f := 39) rfl ?_); refine Rgn.gl (some 8) Tryd.func39 #[.slice A0_8 l0_8.length c0_8, .int .i64 a1] ?_; (with_reducible refine (laws_heldInt64S.calls k _ _ l0_8 a1 t340 _ ?side1 ?side2 A3.out).mono ?_); (case side1 => exact Rgn.cq (Kd.C_below HR0_8.out HB.out)); (case side2 => exact HC0_8.out); rintro e w' ⟨rfl, ⟨nd, rfl⟩⟩; refine ⟨_, rfl, ?_⟩))
  go_ret
  exact ⟨by first | rfl | (simp [errW_none, errW_some] <;> rfl) | (simp [*, errW_none, errW_some] <;> rfl), Rgn.bq HB.out⟩

/-! ### laws_FnExactParseLine: function 3 -/
def laws_FnExactParseLine.j0 : Nat → List Int → Bool → Int → Int → ByteArray → ByteArray → Int → Int → Int → ByteArray → List Int → Int → Int → ByteArray → ByteArray → Int → Int → Int → ByteArray → List Int → Option (Bool)
 | 0, _, _, _, _, _, _, _, _, _, _, _, _, _, _, _, _, _, _, _, _ => none
 | k + 1, x0, x39, x356000, x356001, x356002, x356003, x356004, x356005, x356006, x356007, x356008, x371000, x371001, x371002, x371003, x371004, x371005, x371006, x371007, x371008 => if x39 = true then (some false) else ((laws_markLine.f k x371000 x371001 x371002 x371003 x371004 x371005 x371006 x371007 x371008 1).bind fun bt379 => ((laws_heldLine.f k x371000 x371001 x371002 x371003 x371004 x371005 x371006 x371007 bt379.2 1).bind fun t381 => (if t381 < 0 then (some false) else (if t381 = bt379.1 then ((laws_toByteS.f k x0).bind fun t382 => ((impl_ParseLine.f k t382).bind fun bt385 => ((laws_eqLine.f k bt385.1 bt385.2.1 bt385.2.2.1 bt385.2.2.2.1 bt385.2.2.2.2.1 bt385.2.2.2.2.2.1 bt385.2.2.2.2.2.2.1 bt385.2.2.2.2.2.2.2.1 bt385.2.2.2.2.2.2.2.2 x356000 x356001 x356002 x356003 x356004 x356005 x356006 x356007 x356008).bind fun t397 => (if t397 = true then ((laws_heldLine.f k x371000 x371001 x371002 x371003 x371004 x371005 x371006 x371007 bt379.2 1).bind fun t398 => (if t398 < 0 then (some false) else (if t398 = bt379.1 then (some true) else (some false)))) else (some false))))) else (some false)))))
def laws_FnExactParseLine.f (k : Nat) (l0 : List Int) : Option (Bool) := if (l0.length : Int) > 1048576 then (some true) else ((laws_toByteS.f k l0).bind fun t341 => ((spec_ParseLine.f k t341).bind fun bt344 => ((laws_toByteS.f k l0).bind fun t356 => ((impl_ParseLine.f k t356).bind fun bt359 => ((laws_eqLine.f k bt359.1 bt359.2.1 bt359.2.2.1 bt359.2.2.2.1 bt359.2.2.2.2.1 bt359.2.2.2.2.2.1 bt359.2.2.2.2.2.2.1 bt359.2.2.2.2.2.2.2.1 bt359.2.2.2.2.2.2.2.2 bt344.1 bt344.2.1 bt344.2.2.1 bt344.2.2.2.1 bt344.2.2.2.2.1 bt344.2.2.2.2.2.1 bt344.2.2.2.2.2.2.1 bt344.2.2.2.2.2.2.2.1 bt344.2.2.2.2.2.2.2.2).bind fun t371 => (if t371 = true then ((laws_toByteS.f k l0).bind fun t372 => ((laws_eqByteS.f k t356 t372).bind fun t375 => (if t375 = true then ((laws_markByteS.f k t356 1).bind fun bt376 => (if bt376.1 < 0 then (laws_FnExactParseLine.j0 k l0 true bt344.1 bt344.2.1 bt344.2.2.1 bt344.2.2.2.1 bt344.2.2.2.2.1 bt344.2.2.2.2.2.1 bt344.2.2.2.2.2.2.1 bt344.2.2.2.2.2.2.2.1 bt344.2.2.2.2.2.2.2.2 bt359.1 bt359.2.1 bt359.2.2.1 bt359.2.2.2.1 bt359.2.2.2.2.1 bt359.2.2.2.2.2.1 bt359.2.2.2.2.2.2.1 bt359.2.2.2.2.2.2.2.1 bt359.2.2.2.2.2.2.2.2) else ((laws_eqLine.f k bt359.1 bt359.2.1 bt359.2.2.1 bt359.2.2.2.1 bt359.2.2.2.2.1 bt359.2.2.2.2.2.1 bt359.2.2.2.2.2.2.1 bt359.2.2.2.2.2.2.2.1 bt359.2.2.2.2.2.2.2.2 bt344.1 bt344.2.1 bt344.2.2.1 bt344.2.2.2.1 bt344.2.2.2.2.1 bt344.2.2.2.2.2.1 bt344.2.2.2.2.2.2.1 bt344.2.2.2.2.2.2.2.1 bt344.2.2.2.2.2.2.2.2).bind fun t378 => (laws_FnExactParseLine.j0 k l0 (!t378) bt344.1 bt344.2.1 bt344.2.2.1 bt344.2.2.2.1 bt344.2.2.2.2.1 bt344.2.2.2.2.2.1 bt344.2.2.2.2.2.2.1 bt344.2.2.2.2.2.2.2.1 bt344.2.2.2.2.2.2.2.2 bt359.1 bt359.2.1 bt359.2.2.1 bt359.2.2.2.1 bt359.2.2.2.2.1 bt359.2.2.2.2.2.1 bt359.2.2.2.2.2.2.1 bt359.2.2.2.2.2.2.2.1 bt359.2.2.2.2.2.2.2.2)))) else (some false)))) else (some false)))))))
set_option maxHeartbeats 8000000 in
set_option maxRecDepth 100000 in
theorem laws_FnExactParseLine.calls (k : Nat) (A0 : Option Addr) (c0 : Nat) (l0 : List Int) (r : Bool) (w : World) (hr0 : Kd.C (Kd.int .u8) w A0 l0.length l0) (hc0 : l0.length ≤ c0) (h : laws_FnExactParseLine.f k l0 = some r) (hrt : Aside0 (r = true)) (hG0 : Shp.GlobS w) :
  Calls Tryd.prog 3 #[.slice A0 l0.length c0] w fun e w' => e = .returned (.bool r) ∧ Below w.heap.size w w' := by
 have hu27 := Tryd.underlying27
 have HR0 := Aside0.mk hr0
 have HC0 := Aside0.mk hc0
 clear hr0 hc0
 have HB := Aside0.mk (Below.refl w.heap.size w)
 have H : (if (l0.length : Int) > 1048576 then (some true) else ((laws_toByteS.f k l0).bind fun t341 => ((spec_ParseLine.f k t341).bind fun bt344 => ((laws_toByteS.f k l0).bind fun t356 => ((impl_ParseLine.f k t356).bind fun bt359 => ((laws_eqLine.f k bt359.1 bt359.2.1 bt359.2.2.1 bt359.2.2.2.1 bt359.2.2.2.2.1 bt359.2.2.2.2.2.1 bt359.2.2.2.2.2.2.1 bt359.2.2.2.2.2.2.2.1 bt359.2.2.2.2.2.2.2.2 bt344.1 bt344.2.1 bt344.2.2.1 bt344.2.2.2.1 bt344.2.2.2.2.1 bt344.2.2.2.2.2.1 bt344.2.2.2.2.2.2.1 bt344.2.2.2.2.2.2.2.1 bt344.2.2.2.2.2.2.2.2).bind fun t371 => (if t371 = true then ((laws_toByteS.f k l0).bind fun t372 => ((laws_eqByteS.f k t356 t372).bind fun t375 => (if t375 = true then ((laws_markByteS.f k t356 1).bind fun bt376 => (if bt376.1 < 0 then (laws_FnExactParseLine.j0 k l0 true bt344.1 bt344.2.1 bt344.2.2.1 bt344.2.2.2.1 bt344.2.2.2.2.1 bt344.2.2.2.2.2.1 bt344.2.2.2.2.2.2.1 bt344.2.2.2.2.2.2.2.1 bt344.2.2.2.2.2.2.2.2 bt359.1 bt359.2.1 bt359.2.2.1 bt359.2.2.2.1 bt359.2.2.2.2.1 bt359.2.2.2.2.2.1 bt359.2.2.2.2.2.2.1 bt359.2.2.2.2.2.2.2.1 bt359.2.2.2.2.2.2.2.2) else ((laws_eqLine.f k bt359.1 bt359.2.1 bt359.2.2.1 bt359.2.2.2.1 bt359.2.2.2.2.1 bt359.2.2.2.2.2.1 bt359.2.2.2.2.2.2.1 bt359.2.2.2.2.2.2.2.1 bt359.2.2.2.2.2.2.2.2 bt344.1 bt344.2.1 bt344.2.2.1 bt344.2.2.2.1 bt344.2.2.2.2.1 bt344.2.2.2.2.2.1 bt344.2.2.2.2.2.2.1 bt344.2.2.2.2.2.2.2.1 bt344.2.2.2.2.2.2.2.2).bind fun t378 => (laws_FnExactParseLine.j0 k l0 (!t378) bt344.1 bt344.2.1 bt344.2.2.1 bt344.2.2.2.1 bt344.2.2.2.2.1 bt344.2.2.2.2.2.1 bt344.2.2.2.2.2.2.1 bt344.2.2.2.2.2.2.2.1 bt344.2.2.2.2.2.2.2.2 bt359.1 bt359.2.1 bt359.2.2.1 bt359.2.2.2.1 bt359.2.2.2.2.1 bt359.2.2.2.2.2.1 bt359.2.2.2.2.2.2.1 bt359.2.2.2.2.2.2.2.1 bt359.2.2.2.2.2.2.2.2)))) else (some false)))) else (some false)))))))) = some r := h
 clear h
 by_cases c2 : (l0.length : Int) > 1048576
 ·
  rw [if_pos c2] at H
  have c2b0 : decide (1048576 < (l0.length : Int)) = true := decide_eq_true c2
  have c2b1 : decide (1048576 < l0.length) = true := decide_eq_true (by omega)
  clear c2
  obtain rfl := Option.some.inj H
  go_enter Tryd.func3, Tryd.ntmps3
  go_wp2
  go_ret
  exact ⟨by first | rfl | (simp [errW_none, errW_some] <;> rfl) | (simp [*, errW_none, errW_some] <;> rfl), Rgn.bq HB.out⟩
 ·
  rw [if_neg c2] at H
  have c2b0 : decide (1048576 < (l0.length : Int)) = false := decide_eq_false c2
  have c2b1 : decide (1048576 < l0.length) = false := decide_eq_false (by omega)
  clear c2
  replace H := Option.bind_eq_some_iff.mp H
  obtain ⟨t341, A30, H⟩ := H
  replace H : ((spec_ParseLine.f k t341).bind fun bt344 => ((laws_toByteS.f k l0).bind fun t356 => ((impl_ParseLine.f k t356).bind fun bt359 => ((laws_eqLine.f k bt359.1 bt359.2.1 bt359.2.2.1 bt359.2.2.2.1 bt359.2.2.2.2.1 bt359.2.2.2.2.2.1 bt359.2.2.2.2.2.2.1 bt359.2.2.2.2.2.2.2.1 bt359.2.2.2.2.2.2.2.2 bt344.1 bt344.2.1 bt344.2.2.1 bt344.2.2.2.1 bt344.2.2.2.2.1 bt344.2.2.2.2.2.1 bt344.2.2.2.2.2.2.1 bt344.2.2.2.2.2.2.2.1 bt344.2.2.2.2.2.2.2.2).bind fun t371 => (if t371 = true then ((laws_toByteS.f k l0).bind fun t372 => ((laws_eqByteS.f k t356 t372).bind fun t375 => (if t375 = true then ((laws_markByteS.f k t356 1).bind fun bt376 => (if bt376.1 < 0 then (laws_FnExactParseLine.j0 k l0 true bt344.1 bt344.2.1 bt344.2.2.1 bt344.2.2.2.1 bt344.2.2.2.2.1 bt344.2.2.2.2.2.1 bt344.2.2.2.2.2.2.1 bt344.2.2.2.2.2.2.2.1 bt344.2.2.2.2.2.2.2.2 bt359.1 bt359.2.1 bt359.2.2.1 bt359.2.2.2.1 bt359.2.2.2.2.1 bt359.2.2.2.2.2.1 bt359.2.2.2.2.2.2.1 bt359.2.2.2.2.2.2.2.1 bt359.2.2.2.2.2.2.2.2) else ((laws_eqLine.f k bt359.1 bt359.2.1 bt359.2.2.1 bt359.2.2.2.1 bt359.2.2.2.2.1 bt359.2.2.2.2.2.1 bt359.2.2.2.2.2.2.1 bt359.2.2.2.2.2.2.2.1 bt359.2.2.2.2.2.2.2.2 bt344.1 bt344.2.1 bt344.2.2.1 bt344.2.2.2.1 bt344.2.2.2.2.1 bt344.2.2.2.2.2.1 bt344.2.2.2.2.2.2.1 bt344.2.2.2.2.2.2.2.1 bt344.2.2.2.2.2.2.2.2).bind fun t378 => (laws_FnExactParseLine.j0 k l0 (!t378) bt344.1 bt344.2.1 bt344.2.2.1 bt344.2.2.2.1 bt344.2.2.2.2.1 bt344.2.2.2.2.2.1 bt344.2.2.2.2.2.2.1 bt344.2.2.2.2.2.2.2.1 bt344.2.2.2.2.2.2.2.2 bt359.1 bt359.2.1 bt359.2.2.1 bt359.2.2.2.1 bt359.2.2.2.2.1 bt359.2.2.2.2.2.1 bt359.2.2.2.2.2.2.1 bt359.2.2.2.2.2.2.2.1 bt359.2.2.2.2.2.2.2.2)))) else (some false)))) else (some false)))))) = some r := H
  have A3 := Aside0.mk A30
  clear A30
  replace H := Option.bind_eq_some_iff.mp H
  obtain ⟨⟨t344, t345, t346, t347, t348, t349, t350, t351, t352⟩, A40, H⟩ := H
  replace H : ((laws_toByteS.f k l0).bind fun t356 => ((impl_ParseLine.f k t356).bind fun bt359 => ((laws_eqLine.f k bt359.1 bt359.2.1 bt359.2.2.1 bt359.2.2.2.1 bt359.2.2.2.2.1 bt359.2.2.2.2.2.1 bt359.2.2.2.2.2.2.1 bt359.2.2.2.2.2.2.2.1 bt359.2.2.2.2.2.2.2.2 t344 t345 t346 t347 t348 t349 t350 t351 t352).bind fun t371 => (if t371 = true then ((laws_toByteS.f k l0).bind fun t372 => ((laws_eqByteS.f k t356 t372).bind fun t375 => (if t375 = true then ((laws_markByteS.f k t356 1).bind fun bt376 => (if bt376.1 < 0 then (laws_FnExactParseLine.j0 k l0 true t344 t345 t346 t347 t348 t349 t350 t351 t352 bt359.1 bt359.2.1 bt359.2.2.1 bt359.2.2.2.1 bt359.2.2.2.2.1 bt359.2.2.2.2.2.1 bt359.2.2.2.2.2.2.1 bt359.2.2.2.2.2.2.2.1 bt359.2.2.2.2.2.2.2.2) else ((laws_eqLine.f k bt359.1 bt359.2.1 bt359.2.2.1 bt359.2.2.2.1 bt359.2.2.2.2.1 bt359.2.2.2.2.2.1 bt359.2.2.2.2.2.2.1 bt359.2.2.2.2.2.2.2.1 bt359.2.2.2.2.2.2.2.2 t344 t345 t346 t347 t348 t349 t350 t351 t352).bind fun t378 => (laws_FnExactParseLine.j0 k l0 (!t378) t344 t345 t346 t347 t348 t349 t350 t351 t352 bt359.1 bt359.2.1 bt359.2.2.1 bt359.2.2.2.1 bt359.2.2.2.2.1 bt359.2.2.2.2.2.1 bt359.2.2.2.2.2.2.1 bt359.2.2.2.2.2.2.2.1 bt359.2.2.2.2.2.2.2.2)))) else (some false)))) else (some false))))) = some r := H
  have A4 := Aside0.mk A40
  clear A40
  replace H := Option.bind_eq_some_iff.mp H
  obtain ⟨t356, A50, H⟩ := H
  replace H : ((impl_ParseLine.f k t356).bind fun bt359 => ((laws_eqLine.f k bt359.1 bt359.2.1 bt359.2.2.1 bt359.2.2.2.1 bt359.2.2.2.2.1 bt359.2.2.2.2.2.1 bt359.2.2.2.2.2.2.1 bt359.2.2.2.2.2.2.2.1 bt359.2.2.2.2.2.2.2.2 t344 t345 t346 t347 t348 t349 t350 t351 t352).bind fun t371 => (if t371 = true then ((laws_toByteS.f k l0).bind fun t372 => ((laws_eqByteS.f k t356 t372).bind fun t375 => (if t375 = true then ((laws_markByteS.f k t356 1).bind fun bt376 => (if bt376.1 < 0 then (laws_FnExactParseLine.j0 k l0 true t344 t345 t346 t347 t348 t349 t350 t351 t352 bt359.1 bt359.2.1 bt359.2.2.1 bt359.2.2.2.1 bt359.2.2.2.2.1 bt359.2.2.2.2.2.1 bt359.2.2.2.2.2.2.1 bt359.2.2.2.2.2.2.2.1 bt359.2.2.2.2.2.2.2.2) else ((laws_eqLine.f k bt359.1 bt359.2.1 bt359.2.2.1 bt359.2.2.2.1 bt359.2.2.2.2.1 bt359.2.2.2.2.2.1 bt359.2.2.2.2.2.2.1 bt359.2.2.2.2.2.2.2.1 bt359.2.2.2.2.2.2.2.2 t344 t345 t346 t347 t348 t349 t350 t351 t352).bind fun t378 => (laws_FnExactParseLine.j0 k l0 (!t378) t344 t345 t346 t347 t348 t349 t350 t351 t352 bt359.1 bt359.2.1 bt359.2.2.1 bt359.2.2.2.1 bt359.2.2.2.2.1 bt359.2.2.2.2.2.1 bt359.2.2.2.2.2.2.1 bt359.2.2.2.2.2.2.2.1 bt359.2.2.2.2.2.2.2.2)))) else (some false)))) else (some false)))) = some r := H
  have A5 := Aside0.mk A50
  clear A50
  replace H := Option.bind_eq_some_iff.mp H
  obtain ⟨⟨t359, t360, t361, t362, t363, t364, t365, t366, t367⟩, A60, H⟩ := H
  replace H : ((laws_eqLine.f k t359 t360 t361 t362 t363 t364 t365 t366 t367 t344 t345 t346 t347 t348 t349 t350 t351 t352).bind fun t371 => (if t371 = true then ((laws_toByteS.f k l0).bind fun t372 => ((laws_eqByteS.f k t356 t372).bind fun t375 => (if t375 = true then ((laws_markByteS.f k t356 1).bind fun bt376 => (if bt376.1 < 0 then (laws_FnExactParseLine.j0 k l0 true t344 t345 t346 t347 t348 t349 t350 t351 t352 t359 t360 t361 t362 t363 t364 t365 t366 t367) else ((laws_eqLine.f k t359 t360 t361 t362 t363 t364 t365 t366 t367 t344 t345 t346 t347 t348 t349 t350 t351 t352).bind fun t378 => (laws_FnExactParseLine.j0 k l0 (!t378) t344 t345 t346 t347 t348 t349 t350 t351 t352 t359 t360 t361 t362 t363 t364 t365 t366 t367)))) else (some false)))) else (some false))) = some r := H
  have A6 := Aside0.mk A60
  clear A60
  replace H := Option.bind_eq_some_iff.mp H
  obtain ⟨t371, A70, H⟩ := H
  replace H : (if t371 = true then ((laws_toByteS.f k l0).bind fun t372 => ((laws_eqByteS.f k t356 t372).bind fun t375 => (if t375 = true then ((laws_markByteS.f k t356 1).bind fun bt376 => (if bt376.1 < 0 then (laws_FnExactParseLine.j0 k l0 true t344 t345 t346 t347 t348 t349 t350 t351 t352 t359 t360 t361 t362 t363 t364 t365 t366 t367) else ((laws_eqLine.f k t359 t360 t361 t362 t363 t364 t365 t366 t367 t344 t345 t346 t347 t348 t349 t350 t351 t352).bind fun t378 => (laws_FnExactParseLine.j0 k l0 (!t378) t344 t345 t346 t347 t348 t349 t350 t351 t352 t359 t360 t361 t362 t363 t364 t365 t366 t367)))) else (some false)))) else (some false)) = some r := H
  have A7 := Aside0.mk A70
  clear A70
  by_cases c8 : t371 = true
  ·
   subst c8
   replace H := Rgn.ip H
   replace H := Option.bind_eq_some_iff.mp H
   obtain ⟨t372, A90, H⟩ := H
   replace H : ((laws_eqByteS.f k t356 t372).bind fun t375 => (if t375 = true then ((laws_markByteS.f k t356 1).bind fun bt376 => (if bt376.1 < 0 then (laws_FnExactParseLine.j0 k l0 true t344 t345 t346 t347 t348 t349 t350 t351 t352 t359 t360 t361 t362 t363 t364 t365 t366 t367) else ((laws_eqLine.f k t359 t360 t361 t362 t363 t364 t365 t366 t367 t344 t345 t346 t347 t348 t349 t350 t351 t352).bind fun t378 => (laws_FnExactParseLine.j0 k l0 (!t378) t344 t345 t346 t347 t348 t349 t350 t351 t352 t359 t360 t361 t362 t363 t364 t365 t366 t367)))) else (some false))) = some r := H
   have A9 := Aside0.mk A90
   clear A90
   replace H := Option.bind_eq_some_iff.mp H
   obtain ⟨t375, A100, H⟩ := H
   replace H : (if t375 = true then ((laws_markByteS.f k t356 1).bind fun bt376 => (if bt376.1 < 0 then (laws_FnExactParseLine.j0 k l0 true t344 t345 t346 t347 t348 t349 t350 t351 t352 t359 t360 t361 t362 t363 t364 t365 t366 t367) else ((laws_eqLine.f k t359 t360 t361 t362 t363 t364 t365 t366 t367 t344 t345 t346 t347 t348 t349 t350 t351 t352).bind fun t378 => (laws_FnExactParseLine.j0 k l0 (!t378) t344 t345 t346 t347 t348 t349 t350 t351 t352 t359 t360 t361 t362 t363 t364 t365 t366 t367)))) else (some false)) = some r := H
   have A10 := Aside0.mk A100
   clear A100
   by_cases c11 : t375 = true
   ·
    subst c11
    replace H := Rgn.ip H
    replace H := Option.bind_eq_some_iff.mp H
    obtain ⟨⟨t376, t377⟩, A120, H⟩ := H
    replace H : (if t376 < 0 then (laws_FnExactParseLine.j0 k l0 true t344 t345 t346 t347 t348 t349 t350 t351 t352 t359 t360 t361 t362 t363 t364 t365 t366 t367) else ((laws_eqLine.f k t359 t360 t361 t362 t363 t364 t365 t366 t367 t344 t345 t346 t347 t348 t349 t350 t351 t352).bind fun t378 => (laws_FnExactParseLine.j0 k l0 (!t378) t344 t345 t346 t347 t348 t349 t350 t351 t352 t359 t360 t361 t362 t363 t364 t365 t366 t367))) = some r := H
    have A12 := Aside0.mk A120
    clear A120
    have HC13 := Aside0.mk H
    clear H
    go_enter Tryd.func3, Tryd.ntmps3
    go_upto_region 12 with (first | ((with_reducible refine gate_callee (f := 7) rfl ?_); refine Rgn.gl (some 14) Tryd.func7 #[.slice A0 l0.length c0] ?_; (with_reducible refine (laws_toByteS.calls k _ _ l0 t341 _ ?side1 ?side2 A3.out).mono ?_); (case side1 => repeat (first | exact HR0.out | (with_reducible refine Kd.C_alloc ?_ _) | (with_reducible refine Kd.C_drewN ?_ _) | (with_reducible refine Kd.C_drew ?_))); (case side2 => exact HC0.out); rintro e w14 ⟨v342, rfl, ho0, hb⟩; refine ⟨_, rfl, ?_⟩; have HO343 := Aside0.mk (Kd.R_lower ho0 (below_size (Rgn.bq HB.out))); replace HB := Aside0.mk (below_step (Rgn.bq HB.out) hb); (try clear hb); (try clear ho0); obtain ⟨Ao15, co15, eo15⟩ := Kd.R_slice HO343.out; subst eo15) | ((with_reducible refine gate_callee (f := 6) rfl ?_); refine Rgn.gl (some 15) Tryd.func6 #[.slice Ao15 t341.length co15] ?_; (with_reducible refine (spec_ParseLine.calls k _ _ t341 t344 t345 t346 t347 t348 t349 t350 t351 t352 _ ?side1 ?side2 A4.out).mono ?_); (case side1 => exact Rgn.cq (Kd.R_reads' HO343.out).2.2); (case side2 => exact (Kd.R_reads' HO343.out).2.1); rintro e w16 ⟨v353, rfl, ho0, hb⟩; refine ⟨_, rfl, ?_⟩; replace HO343 := Aside0.mk (Kd.R_below (Rgn.rq HO343.out) hb); have HO354 := Aside0.mk (Kd.R_lower ho0 (below_size (Rgn.bq HB.out))); replace HB := Aside0.mk (below_step (Rgn.bq HB.out) hb); (try clear hb); (try clear ho0)) | ((with_reducible refine gate_dst (N := 3) rfl ?_); refine Rgn.bx 3 #[.int .i64 0, .int .i64 0, .string (⟨#[]⟩ : ByteArray), .string (⟨#[]⟩ : ByteArray), .int .i64 0, .int .i64 0, .int .i64 0, .string (⟨#[]⟩ : ByteArray), .slice none 0 0] 27 ?_; intro gb355 hg w17 hbox hb; replace HO343 := Aside0.mk (Kd.R_below (Rgn.rq HO343.out) hb); replace HO354 := Aside0.mk (Kd.R_below (Rgn.rq HO354.out) hb); have BK355 := Aside0.mk (hbox); have GW355 := Aside0.mk (Rgn.ge hg HB.out); have GE355 := Aside0.mk (Rgn.ge hg HB.out); replace HB := Aside0.mk (below_step (Rgn.bq HB.out) hb); clear hb hbox hg; obtain ⟨hcz18_0, hcz18_1, hcz18_2, hcz18_3, hcz18_4, hcz18_5, hcz18_6, hcz18_7, hcz18_8, hfz18_0, hfz18_1, hfz18_2, hfz18_3, hfz18_4, hfz18_5, hfz18_6, hfz18_7, hfz18_8⟩ := Rgn.cf9 BK355.out; obtain ⟨Ao19, co19, eo19⟩ := Kd.R_slice HO354.out; subst eo19) | ((with_reducible refine gate_callee (f := 7) rfl ?_); refine Rgn.gl (some 17) Tryd.func7 #[.slice A0 l0.length c0] ?_; (with_reducible refine (laws_toByteS.calls k _ _ l0 t356 _ ?side1 ?side2 A5.out).mono ?_); (case side1 => exact Kd.C_below HR0.out (Rgn.bq HB.out)); (case side2 => exact HC0.out); rintro e w20 ⟨v357, rfl, ho0, hb⟩; refine ⟨_, rfl, ?_⟩; replace HO354 := Aside0.mk (Kd.R_below (Rgn.rq (Kd.R_mono (Kd.R_far (p := ⟨gb355, 8, none⟩) (Kd.R_far (p := ⟨gb355, 7, none⟩) (Kd.R_far (p := ⟨gb355, 6, none⟩) (Kd.R_far (p := ⟨gb355, 5, none⟩) (Kd.R_far (p := ⟨gb355, 4, none⟩) (Kd.R_far (p := ⟨gb355, 3, none⟩) (Kd.R_far (p := ⟨gb355, 2, none⟩) (Kd.R_far (p := ⟨gb355, 1, none⟩) (Kd.R_far (p := ⟨gb355, 0, none⟩) (Kd.R_types HO354.out BK355.out (by decide)) (fun _ hk => hk.2) (.int .i64 t344)) (fun _ hk => hk.2) (.int .i64 t345)) (fun _ hk => hk.2) (.string t346)) (fun _ hk => hk.2) (.string t347)) (fun _ hk => hk.2) (.int .i64 t348)) (fun _ hk => hk.2) (.int .i64 t349)) (fun _ hk => hk.2) (.int .i64 t350)) (fun _ hk => hk.2) (.string t351)) (fun _ hk => hk.2) (.slice Ao19 t352.length co19)) (fun _ h_ => h_.1))) hb); have HO358 := Aside0.mk (Kd.R_lower (Kd.R_new' ho0 (Kd.R_lt (Rgn.rq (Kd.R_mono (Kd.R_far (p := ⟨gb355, 8, none⟩) (Kd.R_far (p := ⟨gb355, 7, none⟩) (Kd.R_far (p := ⟨gb355, 6, none⟩) (Kd.R_far (p := ⟨gb355, 5, none⟩) (Kd.R_far (p := ⟨gb355, 4, none⟩) (Kd.R_far (p := ⟨gb355, 3, none⟩) (Kd.R_far (p := ⟨gb355, 2, none⟩) (Kd.R_far (p := ⟨gb355, 1, none⟩) (Kd.R_far (p := ⟨gb355, 0, none⟩) (Kd.R_types HO343.out BK355.out (by decide)) (fun _ hk => hk.2) (.int .i64 t344)) (fun _ hk => hk.2) (.int .i64 t345)) (fun _ hk => hk.2) (.string t346)) (fun _ hk => hk.2) (.string t347)) (fun _ hk => hk.2) (.int .i64 t348)) (fun _ hk => hk.2) (.int .i64 t349)) (fun _ hk => hk.2) (.int .i64 t350)) (fun _ hk => hk.2) (.string t351)) (fun _ hk => hk.2) (.slice Ao19 t352.length co19)) (fun _ h_ => h_.1))))) (below_size (Rgn.bq HB.out))); replace HO343 := Aside0.mk (Kd.R_elder' (Rgn.rq (Kd.R_mono (Kd.R_far (p := ⟨gb355, 8, none⟩) (Kd.R_far (p := ⟨gb355, 7, none⟩) (Kd.R_far (p := ⟨gb355, 6, none⟩) (Kd.R_far (p := ⟨gb355, 5, none⟩) (Kd.R_far (p := ⟨gb355, 4, none⟩) (Kd.R_far (p := ⟨gb355, 3, none⟩) (Kd.R_far (p := ⟨gb355, 2, none⟩) (Kd.R_far (p := ⟨gb355, 1, none⟩) (Kd.R_far (p := ⟨gb355, 0, none⟩) (Kd.R_types HO343.out BK355.out (by decide)) (fun _ hk => hk.2) (.int .i64 t344)) (fun _ hk => hk.2) (.int .i64 t345)) (fun _ hk => hk.2) (.string t346)) (fun _ hk => hk.2) (.string t347)) (fun _ hk => hk.2) (.int .i64 t348)) (fun _ hk => hk.2) (.int .i64 t349)) (fun _ hk => hk.2) (.int .i64 t350)) (fun _ hk => hk.2) (.string t351)) (fun _ hk => hk.2) (.slice Ao19 t352.length co19)) (fun _ h_ => h_.1))) (Kd.R_base ho0) hb); replace BK355 := Aside0.mk (blk_below (g := gb355) (o := .cells #[.int .i64 t344, .int .i64 t345, .string t346, .string t347, .int .i64 t348, .int .i64 t349, .int .i64 t350, .string t351, .slice Ao19 t352.length co19] 27 (0, 0)) (by exact Rgn.put9 (Rgn.kf BK355.out)) hb); replace HB := Aside0.mk (below_step (Rgn.bq HB.out) hb); (try clear hb); (try clear hk); (try clear ho0); obtain ⟨Ao21, co21, eo21⟩ := Kd.R_slice HO358.out; subst eo21) | ((with_reducible refine gate_callee (f := 8) rfl ?_); refine Rgn.gl (some 19) Tryd.func8 #[.slice Ao21 t356.length co21] ?_; (with_reducible refine (impl_ParseLine.calls k _ _ t356 t359 t360 t361 t362 t363 t364 t365 t366 t367 _ ?side1 ?side2 A6.out (hG0.below (Rgn.bq HB.out))).mono ?_); (case side1 => exact Rgn.cq (Kd.R_reads' HO358.out).2.2); (case side2 => exact (Kd.R_reads' HO358.out).2.1); rintro e w22 ⟨v368, rfl, ho0, hb⟩; refine ⟨_, rfl, ?_⟩; replace HO343 := Aside0.mk (Kd.R_below (Rgn.rq HO343.out) hb); replace HO358 := Aside0.mk (Kd.R_below (Rgn.rq HO358.out) hb); have HO369 := Aside0.mk (Kd.R_lower (Kd.R_new' ho0 (Kd.R_lt (Rgn.rq HO354.out))) (below_size (Rgn.bq HB.out))); replace HO354 := Aside0.mk (Kd.R_elder' (Rgn.rq HO354.out) (Kd.R_base ho0) hb); replace BK355 := Aside0.mk (Rgn.bb BK355.out hb); replace HB := Aside0.mk (below_step (Rgn.bq HB.out) hb); (try clear hb); (try clear ho0)) | ((with_reducible refine gate_dst (N := 5) rfl ?_); refine Rgn.bx 5 #[.int .i64 0, .int .i64 0, .string (⟨#[]⟩ : ByteArray), .string (⟨#[]⟩ : ByteArray), .int .i64 0, .int .i64 0, .int .i64 0, .string (⟨#[]⟩ : ByteArray), .slice none 0 0] 27 ?_; intro gb370 hg w23 hbox hb; replace HO343 := Aside0.mk (Kd.R_below (Rgn.rq HO343.out) hb); replace HO354 := Aside0.mk (Kd.R_below (Rgn.rq HO354.out) hb); replace HO358 := Aside0.mk (Kd.R_below (Rgn.rq HO358.out) hb); replace HO369 := Aside0.mk (Kd.R_below (Rgn.rq HO369.out) hb); have BK370 := Aside0.mk (hbox); have GW370 := Aside0.mk (Rgn.ge hg HB.out); have GE370 := Aside0.mk (Rgn.ge hg HB.out); replace HB := Aside0.mk (below_step (Rgn.bq HB.out) hb); have NB355_370 := Aside0.mk (Rgn.nl hg BK355.out); have NB370_355 := Aside0.mk (Rgn.ng hg BK355.out); replace BK355 := Aside0.mk (Rgn.bb BK355.out hb); clear hb hbox hg; have hnb24 := NB370_355.out; have hnc24 := NB355_370.out; obtain ⟨hcz25_0, hcz25_1, hcz25_2, hcz25_3, hcz25_4, hcz25_5, hcz25_6, hcz25_7, hcz25_8, hfz25_0, hfz25_1, hfz25_2, hfz25_3, hfz25_4, hfz25_5, hfz25_6, hfz25_7, hfz25_8⟩ := Rgn.cf9 BK370.out; obtain ⟨Ao26, co26, eo26⟩ := Kd.R_slice HO369.out; subst eo26; obtain ⟨hcz27_0, hcz27_1, hcz27_2, hcz27_3, hcz27_4, hcz27_5, hcz27_6, hcz27_7, hcz27_8, hfz27_0, hfz27_1, hfz27_2, hfz27_3, hfz27_4, hfz27_5, hfz27_6, hfz27_7, hfz27_8⟩ := Rgn.cf9 BK355.out) | ((with_reducible refine gate_callee (f := 9) rfl ?_); refine Rgn.gl (some 22) Tryd.func9 #[.agg #[.int .i64 t359, .int .i64 t360, .string t361, .string t362, .int .i64 t363, .int .i64 t364, .int .i64 t365, .string t366, .slice Ao26 t367.length co26], .agg #[.int .i64 t344, .int .i64 t345, .string t346, .string t347, .int .i64 t348, .int .i64 t349, .int .i64 t350, .string t351, .slice Ao19 t352.length co19]] ?_; (with_reducible refine (laws_eqLine.calls k t359 t360 t361 t362 t363 t364 t365 t366 _ _ t367 t344 t345 t346 t347 t348 t349 t350 t351 _ _ t352 true _ ?side1 ?side2 ?side3 ?side4 A7.out).mono ?_); (case side1 => refine (Kd.R_reads' (e := 2) (base := w.heap.size) (ok := fun k_ => (True ∧ some k_ ≠ (.slice Ao19 t352.length co19 : Value).ownBlock)) (n := t367.length) (c := co26) ?_).2.2; exact (Rgn.rq (Kd.R_mono (Kd.R_far (p := ⟨gb370, 8, none⟩) (Kd.R_far (p := ⟨gb370, 7, none⟩) (Kd.R_far (p := ⟨gb370, 6, none⟩) (Kd.R_far (p := ⟨gb370, 5, none⟩) (Kd.R_far (p := ⟨gb370, 4, none⟩) (Kd.R_far (p := ⟨gb370, 3, none⟩) (Kd.R_far (p := ⟨gb370, 2, none⟩) (Kd.R_far (p := ⟨gb370, 1, none⟩) (Kd.R_far (p := ⟨gb370, 0, none⟩) (Kd.R_types HO369.out BK370.out (by decide)) (fun _ hk => hk.2) (.int .i64 t359)) (fun _ hk => hk.2) (.int .i64 t360)) (fun _ hk => hk.2) (.string t361)) (fun _ hk => hk.2) (.string t362)) (fun _ hk => hk.2) (.int .i64 t363)) (fun _ hk => hk.2) (.int .i64 t364)) (fun _ hk => hk.2) (.int .i64 t365)) (fun _ hk => hk.2) (.string t366)) (fun _ hk => hk.2) (.slice Ao26 t367.length co26)) (fun _ h_ => h_.1)))); (case side2 => exact (Kd.R_reads' HO369.out).2.1); (case side3 => refine (Kd.R_reads' (e := 2) (base := w.heap.size) (ok := fun k_ => (True ∧ some k_ ≠ (.slice Ao26 t367.length co26 : Value).ownBlock)) (n := t352.length) (c := co19) ?_).2.2; exact (Rgn.rq (Kd.R_mono (Kd.R_far (p := ⟨gb370, 8, none⟩) (Kd.R_far (p := ⟨gb370, 7, none⟩) (Kd.R_far (p := ⟨gb370, 6, none⟩) (Kd.R_far (p := ⟨gb370, 5, none⟩) (Kd.R_far (p := ⟨gb370, 4, none⟩) (Kd.R_far (p := ⟨gb370, 3, none⟩) (Kd.R_far (p := ⟨gb370, 2, none⟩) (Kd.R_far (p := ⟨gb370, 1, none⟩) (Kd.R_far (p := ⟨gb370, 0, none⟩) (Kd.R_types HO354.out BK370.out (by decide)) (fun _ hk => hk.2) (.int .i64 t359)) (fun _ hk => hk.2) (.int .i64 t360)) (fun _ hk => hk.2) (.string t361)) (fun _ hk => hk.2) (.string t362)) (fun _ hk => hk.2) (.int .i64 t363)) (fun _ hk => hk.2) (.int .i64 t364)) (fun _ hk => hk.2) (.int .i64 t365)) (fun _ hk => hk.2) (.string t366)) (fun _ hk => hk.2) (.slice Ao26 t367.length co26)) (fun _ h_ => h_.1)))); (case side4 => exact (Kd.R_reads' HO354.out).2.1); rintro e w28 ⟨rfl, hb⟩; refine ⟨_, rfl, ?_⟩; replace HO343 := Aside0.mk (Kd.R_below (Rgn.rq (Kd.R_mono (Kd.R_far (p := ⟨gb370, 8, none⟩) (Kd.R_far (p := ⟨gb370, 7, none⟩) (Kd.R_far (p := ⟨gb370, 6, none⟩) (Kd.R_far (p := ⟨gb370, 5, none⟩) (Kd.R_far (p := ⟨gb370, 4, none⟩) (Kd.R_far (p := ⟨gb370, 3, none⟩) (Kd.R_far (p := ⟨gb370, 2, none⟩) (Kd.R_far (p := ⟨gb370, 1, none⟩) (Kd.R_far (p := ⟨gb370, 0, none⟩) (Kd.R_types HO343.out BK370.out (by decide)) (fun _ hk => hk.2) (.int .i64 t359)) (fun _ hk => hk.2) (.int .i64 t360)) (fun _ hk => hk.2) (.string t361)) (fun _ hk => hk.2) (.string t362)) (fun _ hk => hk.2) (.int .i64 t363)) (fun _ hk => hk.2) (.int .i64 t364)) (fun _ hk => hk.2) (.int .i64 t365)) (fun _ hk => hk.2) (.string t366)) (fun _ hk => hk.2) (.slice Ao26 t367.length co26)) (fun _ h_ => h_.1))) hb); replace HO354 := Aside0.mk (Kd.R_below (Rgn.rq (Kd.R_mono (Kd.R_far (p := ⟨gb370, 8, none⟩) (Kd.R_far (p := ⟨gb370, 7, none⟩) (Kd.R_far (p := ⟨gb370, 6, none⟩) (Kd.R_far (p := ⟨gb370, 5, none⟩) (Kd.R_far (p := ⟨gb370, 4, none⟩) (Kd.R_far (p := ⟨gb370, 3, none⟩) (Kd.R_far (p := ⟨gb370, 2, none⟩) (Kd.R_far (p := ⟨gb370, 1, none⟩) (Kd.R_far (p := ⟨gb370, 0, none⟩) (Kd.R_types HO354.out BK370.out (by decide)) (fun _ hk => hk.2) (.int .i64 t359)) (fun _ hk => hk.2) (.int .i64 t360)) (fun _ hk => hk.2) (.string t361)) (fun _ hk => hk.2) (.string t362)) (fun _ hk => hk.2) (.int .i64 t363)) (fun _ hk => hk.2) (.int .i64 t364)) (fun _ hk => hk.2) (.int .i64 t365)) (fun _ hk => hk.2) (.string t366)) (fun _ hk => hk.2) (.slice Ao26 t367.length co26)) (fun _ h_ => h_.1))) hb); replace HO358 := Aside0.mk (Kd.R_below (Rgn.rq (Kd.R_mono (Kd.R_far (p := ⟨gb370, 8, none⟩) (Kd.R_far (p := ⟨gb370, 7, none⟩) (Kd.R_far (p := ⟨gb370, 6, none⟩) (Kd.R_far (p := ⟨gb370, 5, none⟩) (Kd.R_far (p := ⟨gb370, 4, none⟩) (Kd.R_far (p := ⟨gb370, 3, none⟩) (Kd.R_far (p := ⟨gb370, 2, none⟩) (Kd.R_far (p := ⟨gb370, 1, none⟩) (Kd.R_far (p := ⟨gb370, 0, none⟩) (Kd.R_types HO358.out BK370.out (by decide)) (fun _ hk => hk.2) (.int .i64 t359)) (fun _ hk => hk.2) (.int .i64 t360)) (fun _ hk => hk.2) (.string t361)) (fun _ hk => hk.2) (.string t362)) (fun _ hk => hk.2) (.int .i64 t363)) (fun _ hk => hk.2) (.int .i64 t364)) (fun _ hk => hk.2) (.int .i64 t365)) (fun _ hk => hk.2) (.string t366)) (fun _ hk => hk.2) (.slice Ao26 t367.length co26)) (fun _ h_ => h_.1))) hb); replace HO369 := Aside0.mk (Kd.R_below (Rgn.rq (Kd.R_mono (Kd.R_far (p := ⟨gb370, 8, none⟩) (Kd.R_far (p := ⟨gb370, 7, none⟩) (Kd.R_far (p := ⟨gb370, 6, none⟩) (Kd.R_far (p := ⟨gb370, 5, none⟩) (Kd.R_far (p := ⟨gb370, 4, none⟩) (Kd.R_far (p := ⟨gb370, 3, none⟩) (Kd.R_far (p := ⟨gb370, 2, none⟩) (Kd.R_far (p := ⟨gb370, 1, none⟩) (Kd.R_far (p := ⟨gb370, 0, none⟩) (Kd.R_types HO369.out BK370.out (by decide)) (fun _ hk => hk.2) (.int .i64 t359)) (fun _ hk => hk.2) (.int .i64 t360)) (fun _ hk => hk.2) (.string t361)) (fun _ hk => hk.2) (.string t362)) (fun _ hk => hk.2) (.int .i64 t363)) (fun _ hk => hk.2) (.int .i64 t364)) (fun _ hk => hk.2) (.int .i64 t365)) (fun _ hk => hk.2) (.string t366)) (fun _ hk => hk.2) (.slice Ao26 t367.length co26)) (fun _ h_ => h_.1))) hb); replace BK355 := Aside0.mk (blk_below (g := gb355) (o := .cells #[.int .i64 t344, .int .i64 t345, .string t346, .string t347, .int .i64 t348, .int .i64 t349, .int .i64 t350, .string t351, .slice Ao19 t352.length co19] 27 (0, 0)) (Rgn.kf BK355.out) hb); replace BK370 := Aside0.mk (blk_below (g := gb370) (o := .cells #[.int .i64 t359, .int .i64 t360, .string t361, .string t362, .int .i64 t363, .int .i64 t364, .int .i64 t365, .string t366, .slice Ao26 t367.length co26] 27 (0, 0)) (by exact Rgn.put9 (Rgn.kf BK370.out)) hb); replace HB := Aside0.mk (below_step (Rgn.bq HB.out) hb); (try clear hb); (try clear hk)) | ((with_reducible refine gate_callee (f := 7) rfl ?_); refine Rgn.gl (some 26) Tryd.func7 #[.slice A0 l0.length c0] ?_; (with_reducible refine (laws_toByteS.calls k _ _ l0 t372 _ ?side1 ?side2 A9.out).mono ?_); (case side1 => exact Rgn.cq (Kd.C_below HR0.out HB.out)); (case side2 => exact HC0.out); rintro e w29 ⟨v373, rfl, ho0, hb⟩; refine ⟨_, rfl, ?_⟩; replace HO354 := Aside0.mk (Kd.R_below (Rgn.rq HO354.out) hb); replace HO369 := Aside0.mk (Kd.R_below (Rgn.rq HO369.out) hb); have HO374 := Aside0.mk (Kd.R_lower (Kd.R_new' (Kd.R_new' ho0 (Kd.R_lt (Rgn.rq HO343.out))) (Kd.R_lt (Rgn.rq HO358.out))) (below_size (Rgn.bq HB.out))); replace HO343 := Aside0.mk (Kd.R_elder' (Rgn.rq HO343.out) (Kd.R_base ho0) hb); replace HO358 := Aside0.mk (Kd.R_elder' (Rgn.rq HO358.out) (Kd.R_base ho0) hb); replace BK355 := Aside0.mk (Rgn.bb BK355.out hb); replace BK370 := Aside0.mk (Rgn.bb BK370.out hb); replace HB := Aside0.mk (below_step (Rgn.bq HB.out) hb); (try clear hb); (try clear ho0); obtain ⟨Ao30, co30, eo30⟩ := Kd.R_slice HO374.out; subst eo30) | ((with_reducible refine gate_callee (f := 10) rfl ?_); refine Rgn.gl (some 27) Tryd.func10 #[.slice Ao21 t356.length co21, .slice Ao30 t372.length co30] ?_; (with_reducible refine (laws_eqByteS.calls k _ _ t356 _ _ t372 true _ ?side1 ?side2 ?side3 ?side4 A10.out).mono ?_); (case side1 => exact Rgn.cq (Kd.R_reads' HO358.out).2.2); (case side2 => exact (Kd.R_reads' HO358.out).2.1); (case side3 => exact Rgn.cq (Kd.R_reads' HO374.out).2.2); (case side4 => exact (Kd.R_reads' HO374.out).2.1); rintro e w' ⟨rfl, ⟨nd, rfl⟩⟩; refine ⟨_, rfl, ?_⟩) | ((with_reducible refine gate_callee (f := 11) rfl ?_); refine Rgn.gl (some 31) Tryd.func11 #[.slice Ao21 t356.length co21, .int .i64 1] ?_; (with_reducible refine (laws_markByteS.calls k (fun k_ => some k_ = (.slice Ao21 t356.length co21 : Value).ownBlock) (.slice Ao21 t356.length co21) t356 1 t376 t377 w _ ?side1 ?side2 A12.out).mono ?_); (case side1 => exact Rgn.bq HB.out); (case side2 => exact Kd.R_tight rfl HO358.out); rintro e w31 ⟨rfl, hy0, hb, hkp⟩; refine ⟨_, rfl, ?_⟩; replace HO343 := Aside0.mk (Kd.R_mono (ok' := fun k_ => some k_ ≠ (.slice Ao21 t356.length co21 : Value).ownBlock ∧ some k_ ≠ (.slice Ao30 t372.length co30 : Value).ownBlock) (Kd.R_keptB (HO343.out) hkp (fun k_ hk_ hs_ => (hk_.1.2) hs_)) (fun k_ hk_ => ⟨hk_.1.1.2, hk_.1.2⟩)); replace HO354 := Aside0.mk (Kd.R_mono (ok' := fun k_ => some k_ ≠ (.slice Ao26 t367.length co26 : Value).ownBlock) (Kd.R_keptB ((Kd.R_apart' HO354.out (Kd.R_typed HO358.out) (by decide))) hkp (fun k_ hk_ hs_ => (hk_.2) hs_)) (fun k_ hk_ => hk_.1.1.2)); replace BK355 := Aside0.mk (blk_kept (Rgn.kb BK355.out) hkp (fun hs_ => (fun e_ => (Kd.R_ne HO358.out BK355.out (by decide)) e_) hs_)); replace HO369 := Aside0.mk (Kd.R_mono (ok' := fun k_ => some k_ ≠ (.slice Ao19 t352.length co19 : Value).ownBlock) (Kd.R_keptB ((Kd.R_apart' HO369.out (Kd.R_typed HO358.out) (by decide))) hkp (fun k_ hk_ hs_ => (hk_.2) hs_)) (fun k_ hk_ => hk_.1.1.2)); replace BK370 := Aside0.mk (blk_kept (Rgn.kb BK370.out) hkp (fun hs_ => (fun e_ => (Kd.R_ne HO358.out BK370.out (by decide)) e_) hs_)); replace HO358 := Aside0.mk (Kd.R_reok rfl hy0 (fun k_ e_ => HO358.out.1 k_ e_)); replace HO374 := Aside0.mk (Kd.R_mono (ok' := fun k_ => some k_ ≠ (.slice Ao15 t341.length co15 : Value).ownBlock ∧ some k_ ≠ (.slice Ao21 t356.length co21 : Value).ownBlock) (Kd.R_keptB (HO374.out) hkp (fun k_ hk_ hs_ => (hk_.2) hs_)) (fun k_ hk_ => ⟨hk_.1.1.2, hk_.1.2⟩)); replace HB := Aside0.mk (hb); (try clear hb); (try clear hkp); (try clear hy0)))
    (try simp only [Act.put, List.setIfInBounds_toArray, List.set_cons_zero, List.set_cons_succ])
    go_cut [39] from 39 to 39 (fun v39 wc => ∃ (kq : Nat) (x39_12 : Bool), v39 = .bool x39_12 ∧ Aside0 (laws_FnExactParseLine.j0 kq l0 x39_12 t344 t345 t346 t347 t348 t349 t350 t351 t352 t359 t360 t361 t362 t363 t364 t365 t366 t367 = some r) ∧ Aside0 (kq ≤ k) ∧ Aside0 (Kd.R (Kd.int .i64) 2 wc w.heap.size (fun k_ => some k_ ≠ ((.slice Ao26 t367.length co26) : Value).ownBlock) (.slice Ao19 t352.length co19) t352) ∧ Aside0 (Kd.R (Kd.int .i64) 2 wc w.heap.size (fun k_ => some k_ ≠ ((.slice Ao19 t352.length co19) : Value).ownBlock) (.slice Ao26 t367.length co26) t367) ∧ Aside0 (wc.heap[gb355]? = some (.cells #[.int .i64 t344, .int .i64 t345, .string t346, .string t347, .int .i64 t348, .int .i64 t349, .int .i64 t350, .string t351, (.slice Ao19 t352.length co19)] 27 (0, 0))) ∧ Aside0 (wc.heap[gb370]? = some (.cells #[.int .i64 t359, .int .i64 t360, .string t361, .string t362, .int .i64 t363, .int .i64 t364, .int .i64 t365, .string t366, (.slice Ao26 t367.length co26)] 27 (0, 0))) ∧ Aside0 (Below w.heap.size w wc))
    case first =>
     have H := HC13.out
     clear HC13
     by_cases c32 : t376 < 0
     ·
      rw [if_pos c32] at H
      have c32b0 : decide (t376 < 0) = true := decide_eq_true c32
      clear c32
      (first | rw [c32b0] | (simp only [i64_w, i32_w]; rw [c32b0]) | skip)
      have H' := Aside0.mk H
      clear H
      go_wp2
      go_meet
      case rel => exact ⟨_, (true), (by first | rfl | (simp; done) | (simp [*]; done)), H', ⟨by first | omega | exact Nat.le_refl _⟩, ⟨Rgn.rq HO354.out⟩, ⟨Rgn.rq HO369.out⟩, ⟨Rgn.kb BK355.out⟩, ⟨Rgn.kb BK370.out⟩, ⟨Rgn.bq HB.out⟩⟩
     ·
      rw [if_neg c32] at H
      have c32b0 : decide (t376 < 0) = false := decide_eq_false c32
      clear c32
      (first | rw [c32b0] | (simp only [i64_w, i32_w]; rw [c32b0]) | skip)
      replace H := Option.bind_eq_some_iff.mp H
      obtain ⟨t378, A330, H⟩ := H
      replace H : (laws_FnExactParseLine.j0 k l0 (!t378) t344 t345 t346 t347 t348 t349 t350 t351 t352 t359 t360 t361 t362 t363 t364 t365 t366 t367) = some r := H
      have A33 := Aside0.mk A330
      clear A330
      have H' := Aside0.mk H
      clear H
      have hnb34 := NB370_355.out
      have hnc34 := NB355_370.out
      obtain ⟨hcz35_0, hcz35_1, hcz35_2, hcz35_3, hcz35_4, hcz35_5, hcz35_6, hcz35_7, hcz35_8, hfz35_0, hfz35_1, hfz35_2, hfz35_3, hfz35_4, hfz35_5, hfz35_6, hfz35_7, hfz35_8⟩ := Rgn.cf9 BK370.out
      obtain ⟨hcz36_0, hcz36_1, hcz36_2, hcz36_3, hcz36_4, hcz36_5, hcz36_6, hcz36_7, hcz36_8, hfz36_0, hfz36_1, hfz36_2, hfz36_3, hfz36_4, hfz36_5, hfz36_6, hfz36_7, hfz36_8⟩ := Rgn.cf9 BK355.out
      go_wp2_with (first | (go_at_call 9; (with_reducible refine (laws_eqLine.calls k t359 t360 t361 t362 t363 t364 t365 t366 _ _ t367 t344 t345 t346 t347 t348 t349 t350 t351 _ _ t352 t378 _ ?side1 ?side2 ?side3 ?side4 A33.out).mono ?_); (case side1 => exact Rgn.cq (Kd.R_reads' HO369.out).2.2); (case side2 => exact (Kd.R_reads' HO369.out).2.1); (case side3 => exact Rgn.cq (Kd.R_reads' HO354.out).2.2); (case side4 => exact (Kd.R_reads' HO354.out).2.1); rintro e w37 ⟨rfl, hb⟩; replace HO343 := Aside0.mk (Kd.R_below (Rgn.rq HO343.out) hb); replace HO354 := Aside0.mk (Kd.R_below (Rgn.rq HO354.out) hb); replace HO358 := Aside0.mk (Kd.R_below (Rgn.rq HO358.out) hb); replace HO369 := Aside0.mk (Kd.R_below (Rgn.rq HO369.out) hb); replace HO374 := Aside0.mk (Kd.R_below (Rgn.rq HO374.out) hb); replace BK355 := Aside0.mk (Rgn.bb BK355.out hb); replace BK370 := Aside0.mk (Rgn.bb BK370.out hb); replace HB := Aside0.mk (below_step (Rgn.bq HB.out) hb); (try clear hb)))
      go_meet
      case rel => exact ⟨_, (!t378), (by first | rfl | (simp; done) | (simp [*]; done)), H', ⟨by first | omega | exact Nat.le_refl _⟩, ⟨Rgn.rq HO354.out⟩, ⟨Rgn.rq HO369.out⟩, ⟨Rgn.kb BK355.out⟩, ⟨Rgn.kb BK370.out⟩, ⟨Rgn.bq HB.out⟩⟩
    case rest =>
     clear HC13
     try clear c2
     try clear c2b0
     try clear c2b1
     try clear c8
     try clear c11
     try clear hcz18_0 hcz18_1 hcz18_2 hcz18_3 hcz18_4 hcz18_5 hcz18_6 hcz18_7 hcz18_8
     try clear hcz25_0 hcz25_1 hcz25_2 hcz25_3 hcz25_4 hcz25_5 hcz25_6 hcz25_7 hcz25_8
     try clear hcz27_0 hcz27_1 hcz27_2 hcz27_3 hcz27_4 hcz27_5 hcz27_6 hcz27_7 hcz27_8
     try clear hfz18_0 hfz18_1 hfz18_2 hfz18_3 hfz18_4 hfz18_5 hfz18_6 hfz18_7 hfz18_8
     try clear hfz25_0 hfz25_1 hfz25_2 hfz25_3 hfz25_4 hfz25_5 hfz25_6 hfz25_7 hfz25_8
     try clear hfz27_0 hfz27_1 hfz27_2 hfz27_3 hfz27_4 hfz27_5 hfz27_6 hfz27_7 hfz27_8
     obtain ⟨kq, x39_12, rfl, HA, HJ12, HO_356008, HO_371008, BK355, BK370, HB⟩ := hcut
     cases kq with
     | zero => exact absurd HA.out (by simp [laws_FnExactParseLine.j0])
     | succ kj12 =>
      have H := HA.out
      clear HA
      simp only [laws_FnExactParseLine.j0] at H
      by_cases c38 : x39_12 = true
      ·
       subst c38
       replace H := Rgn.ip H
       exact absurd ((Option.some.inj H).trans hrt.out) (by simp)
      ·
       replace c38 := Bool.eq_false_iff.mpr c38
       subst c38
       replace H := Rgn.im H
       replace H := Option.bind_eq_some_iff.mp H
       obtain ⟨⟨t379, t380⟩, A390, H⟩ := H
       replace H : ((laws_heldLine.f kj12 t359 t360 t361 t362 t363 t364 t365 t366 t380 1).bind fun t381 => (if t381 < 0 then (some false) else (if t381 = t379 then ((laws_toByteS.f kj12 l0).bind fun t382 => ((impl_ParseLine.f kj12 t382).bind fun bt385 => ((laws_eqLine.f kj12 bt385.1 bt385.2.1 bt385.2.2.1 bt385.2.2.2.1 bt385.2.2.2.2.1 bt385.2.2.2.2.2.1 bt385.2.2.2.2.2.2.1 bt385.2.2.2.2.2.2.2.1 bt385.2.2.2.2.2.2.2.2 t344 t345 t346 t347 t348 t349 t350 t351 t352).bind fun t397 => (if t397 = true then ((laws_heldLine.f kj12 t359 t360 t361 t362 t363 t364 t365 t366 t380 1).bind fun t398 => (if t398 < 0 then (some false) else (if t398 = t379 then (some true) else (some false)))) else (some false))))) else (some false)))) = some r := H
       have A39 := Aside0.mk A390
       clear A390
       replace H := Option.bind_eq_some_iff.mp H
       obtain ⟨t381, A400, H⟩ := H
       replace H : (if t381 < 0 then (some false) else (if t381 = t379 then ((laws_toByteS.f kj12 l0).bind fun t382 => ((impl_ParseLine.f kj12 t382).bind fun bt385 => ((laws_eqLine.f kj12 bt385.1 bt385.2.1 bt385.2.2.1 bt385.2.2.2.1 bt385.2.2.2.2.1 bt385.2.2.2.2.2.1 bt385.2.2.2.2.2.2.1 bt385.2.2.2.2.2.2.2.1 bt385.2.2.2.2.2.2.2.2 t344 t345 t346 t347 t348 t349 t350 t351 t352).bind fun t397 => (if t397 = true then ((laws_heldLine.f kj12 t359 t360 t361 t362 t363 t364 t365 t366 t380 1).bind fun t398 => (if t398 < 0 then (some false) else (if t398 = t379 then (some true) else (some false)))) else (some false))))) else (some false))) = some r := H
       have A40 := Aside0.mk A400
       clear A400
       by_cases c41 : t381 < 0
       ·
        rw [if_pos c41] at H
        have c41b0 : decide (t381 < 0) = true := decide_eq_true c41
        clear c41
        exact absurd ((Option.some.inj H).trans hrt.out) (by simp)
       ·
        rw [if_neg c41] at H
        have c41b0 : decide (t381 < 0) = false := decide_eq_false c41
        clear c41
        by_cases c42 : t381 = t379
        ·
         rw [if_pos c42] at H
         have c42b0 : (t381 == t379) = true := beq_iff_eq.mpr c42
         have c42b1 : (t381 != t379) = false := bne_eq_false_iff_eq.mpr c42
         clear c42
         replace H := Option.bind_eq_some_iff.mp H
         obtain ⟨t382, A430, H⟩ := H
         replace H : ((impl_ParseLine.f kj12 t382).bind fun bt385 => ((laws_eqLine.f kj12 bt385.1 bt385.2.1 bt385.2.2.1 bt385.2.2.2.1 bt385.2.2.2.2.1 bt385.2.2.2.2.2.1 bt385.2.2.2.2.2.2.1 bt385.2.2.2.2.2.2.2.1 bt385.2.2.2.2.2.2.2.2 t344 t345 t346 t347 t348 t349 t350 t351 t352).bind fun t397 => (if t397 = true then ((laws_heldLine.f kj12 t359 t360 t361 t362 t363 t364 t365 t366 t380 1).bind fun t398 => (if t398 < 0 then (some false) else (if t398 = t379 then (some true) else (some false)))) else (some false)))) = some r := H
         have A43 := Aside0.mk A430
         clear A430
         replace H := Option.bind_eq_some_iff.mp H
         obtain ⟨⟨t385, t386, t387, t388, t389, t390, t391, t392, t393⟩, A440, H⟩ := H
         replace H : ((laws_eqLine.f kj12 t385 t386 t387 t388 t389 t390 t391 t392 t393 t344 t345 t346 t347 t348 t349 t350 t351 t352).bind fun t397 => (if t397 = true then ((laws_heldLine.f kj12 t359 t360 t361 t362 t363 t364 t365 t366 t380 1).bind fun t398 => (if t398 < 0 then (some false) else (if t398 = t379 then (some true) else (some false)))) else (some false))) = some r := H
         have A44 := Aside0.mk A440
         clear A440
         replace H := Option.bind_eq_some_iff.mp H
         obtain ⟨t397, A450, H⟩ := H
         replace H : (if t397 = true then ((laws_heldLine.f kj12 t359 t360 t361 t362 t363 t364 t365 t366 t380 1).bind fun t398 => (if t398 < 0 then (some false) else (if t398 = t379 then (some true) else (some false)))) else (some false)) = some r := H
         have A45 := Aside0.mk A450
         clear A450
         by_cases c46 : t397 = true
         ·
          subst c46
          replace H := Rgn.ip H
          replace H := Option.bind_eq_some_iff.mp H
          obtain ⟨t398, A470, H⟩ := H
          replace H : (if t398 < 0 then (some false) else (if t398 = t379 then (some true) else (some false))) = some r := H
          have A47 := Aside0.mk A470
          clear A470
          by_cases c48 : t398 < 0
          ·
           rw [if_pos c48] at H
           have c48b0 : decide (t398 < 0) = true := decide_eq_true c48
           clear c48
           exact absurd ((Option.some.inj H).trans hrt.out) (by simp)
          ·
           rw [if_neg c48] at H
           have c48b0 : decide (t398 < 0) = false := decide_eq_false c48
           clear c48
           by_cases c49 : t398 = t379
           ·
            rw [if_pos c49] at H
            have c49b0 : (t398 == t379) = true := beq_iff_eq.mpr c49
            have c49b1 : (t398 != t379) = false := bne_eq_false_iff_eq.mpr c49
            clear c49
            obtain rfl := Option.some.inj H
            have hnb50 := NB370_355.out
            have hnc50 := NB355_370.out
            obtain ⟨hcz51_0, hcz51_1, hcz51_2, hcz51_3, hcz51_4, hcz51_5, hcz51_6, hcz51_7, hcz51_8, hfz51_0, hfz51_1, hfz51_2, hfz51_3, hfz51_4, hfz51_5, hfz51_6, hfz51_7, hfz51_8⟩ := Rgn.cf9 BK370.out
            go_wp2_with (first | ((with_reducible refine gate_callee (f := 12) rfl ?_); refine Rgn.gl (some 42) Tryd.func12 #[.agg #[.int .i64 t359, .int .i64 t360, .string t361, .string t362, .int .i64 t363, .int .i64 t364, .int .i64 t365, .string t366, .slice Ao26 t367.length co26], .int .i64 1] ?_; (with_reducible refine (laws_markLine.calls kj12 t359 t360 t361 t362 t363 t364 t365 t366 (fun k_ => some k_ = (.slice Ao26 t367.length co26 : Value).ownBlock) (.slice Ao26 t367.length co26) t367 1 t379 t380 w _ ?side1 ?side2 A39.out).mono ?_); (case side1 => exact Rgn.bq HB.out); (case side2 => exact Kd.R_tight rfl HO_371008.out); rintro e w52 ⟨rfl, hy0, hb, hkp⟩; refine ⟨_, rfl, ?_⟩; replace HO_356008 := Aside0.mk (Kd.R_mono (ok' := fun k_ => some k_ ≠ (.slice Ao26 t367.length co26 : Value).ownBlock) (Kd.R_keptB (HO_356008.out) hkp (fun k_ hk_ hs_ => (hk_) hs_)) (fun k_ hk_ => hk_.1)); replace BK355 := Aside0.mk (blk_kept (Rgn.kb BK355.out) hkp (fun hs_ => (fun e_ => (Kd.R_ne HO_371008.out BK355.out (by decide)) e_) hs_)); replace BK370 := Aside0.mk (blk_kept (Rgn.kb BK370.out) hkp (fun hs_ => (fun e_ => (Kd.R_ne HO_371008.out BK370.out (by decide)) e_) hs_)); replace HO_371008 := Aside0.mk (Kd.R_reok rfl hy0 (fun k_ e_ => HO_371008.out.1 k_ e_)); replace HB := Aside0.mk (hb); (try clear hb); (try clear hkp); (try clear hy0); obtain ⟨hcz53_0, hcz53_1, hcz53_2, hcz53_3, hcz53_4, hcz53_5, hcz53_6, hcz53_7, hcz53_8, hfz53_0, hfz53_1, hfz53_2, hfz53_3, hfz53_4, hfz53_5, hfz53_6, hfz53_7, hfz53_8⟩ := Rgn.cf9 BK370.out) | ((with_reducible refine gate_callee (f := 13) rfl ?_); refine goesL_ (some 45) rfl rfl Tryd.func13 (by kernel_rfl) rfl #[.agg #[.int .i64 t359, .int .i64 t360, .string t361, .string t362, .int .i64 t363, .int .i64 t364, .int .i64 t365, .string t366, .slice Ao26 t380.length co26], .int .i64 1] rfl (by (try simp only [List.map_toArray, List.map_cons, List.map_nil]); first | done | (rw [show t380.length = t367.length from (Kd.R_reads' HO_371008.out).1.symm] <;> rfl) | rfl | (simp only [List.length_drop, List.length_take]; rfl)) ?_; (with_reducible refine (laws_heldLine.calls kj12 t359 t360 t361 t362 t363 t364 t365 t366 _ _ t380 1 t381 _ ?side1 ?side2 A40.out).mono ?_); (case side1 => exact Rgn.cq (Kd.R_reads' HO_371008.out).2.2); (case side2 => rw [show t380.length = t367.length from (Kd.R_reads' HO_371008.out).1.symm]; exact (Kd.R_reads' HO_371008.out).2.1); rintro e w54 ⟨rfl, hb⟩; refine ⟨_, rfl, ?_⟩; replace HO_356008 := Aside0.mk (Kd.R_below (Rgn.rq HO_356008.out) hb); replace HO_371008 := Aside0.mk (Kd.R_below (Rgn.rq HO_371008.out) hb); replace BK355 := Aside0.mk (Rgn.bb BK355.out hb); replace BK370 := Aside0.mk (Rgn.bb BK370.out hb); replace HB := Aside0.mk (below_step (Rgn.bq HB.out) hb); (try clear hb)) | ((with_reducible refine gate_callee (f := 7) rfl ?_); refine Rgn.gl (some 52) Tryd.func7 #[.slice A0 l0.length c0] ?_; (with_reducible refine (laws_toByteS.calls kj12 _ _ l0 t382 _ ?side1 ?side2 A43.out).mono ?_); (case side1 => exact Rgn.cq (Kd.C_below HR0.out HB.out)); (case side2 => exact HC0.out); rintro e w55 ⟨v383, rfl, ho0, hb⟩; refine ⟨_, rfl, ?_⟩; replace HO_356008 := Aside0.mk (Kd.R_below (Rgn.rq HO_356008.out) hb); replace HO_371008 := Aside0.mk (Kd.R_below (Rgn.rq HO_371008.out) hb); have HO384 := Aside0.mk (Kd.R_lower ho0 (below_size (Rgn.bq HB.out))); replace BK355 := Aside0.mk (Rgn.bb BK355.out hb); replace BK370 := Aside0.mk (Rgn.bb BK370.out hb); replace HB := Aside0.mk (below_step (Rgn.bq HB.out) hb); (try clear hb); (try clear ho0); obtain ⟨Ao56, co56, eo56⟩ := Kd.R_slice HO384.out; subst eo56) | ((with_reducible refine gate_callee (f := 8) rfl ?_); refine Rgn.gl (some 53) Tryd.func8 #[.slice Ao56 t382.length co56] ?_; (with_reducible refine (impl_ParseLine.calls kj12 _ _ t382 t385 t386 t387 t388 t389 t390 t391 t392 t393 _ ?side1 ?side2 A44.out (hG0.below (Rgn.bq HB.out))).mono ?_); (case side1 => exact Rgn.cq (Kd.R_reads' HO384.out).2.2); (case side2 => exact (Kd.R_reads' HO384.out).2.1); rintro e w57 ⟨v394, rfl, ho0, hb⟩; refine ⟨_, rfl, ?_⟩; replace HO384 := Aside0.mk (Kd.R_below (Rgn.rq HO384.out) hb); have HO395 := Aside0.mk (Kd.R_lower (Kd.R_new' (Kd.R_new' ho0 (Kd.R_lt (Rgn.rq HO_356008.out))) (Kd.R_lt (Rgn.rq HO_371008.out))) (below_size (Rgn.bq HB.out))); replace HO_356008 := Aside0.mk (Kd.R_elder' (Rgn.rq HO_356008.out) (Kd.R_base ho0) hb); replace HO_371008 := Aside0.mk (Kd.R_elder' (Rgn.rq HO_371008.out) (Kd.R_base ho0) hb); replace BK355 := Aside0.mk (Rgn.bb BK355.out hb); replace BK370 := Aside0.mk (Rgn.bb BK370.out hb); replace HB := Aside0.mk (below_step (Rgn.bq HB.out) hb); (try clear hb); (try clear ho0)) | ((with_reducible refine gate_dst (N := 9) rfl ?_); refine Rgn.bx 9 #[.int .i64 0, .int .i64 0, .string (⟨#[]⟩ : ByteArray), .string (⟨#[]⟩ : ByteArray), .int .i64 0, .int .i64 0, .int .i64 0, .string (⟨#[]⟩ : ByteArray), .slice none 0 0] 27 ?_; intro gb396 hg w58 hbox hb; replace HO_356008 := Aside0.mk (Kd.R_below (Rgn.rq HO_356008.out) hb); replace HO_371008 := Aside0.mk (Kd.R_below (Rgn.rq HO_371008.out) hb); replace HO384 := Aside0.mk (Kd.R_below (Rgn.rq HO384.out) hb); replace HO395 := Aside0.mk (Kd.R_below (Rgn.rq HO395.out) hb); have BK396 := Aside0.mk (hbox); have GW396 := Aside0.mk (Rgn.ge hg HB.out); have GE396 := Aside0.mk (Rgn.ge hg HB.out); replace HB := Aside0.mk (below_step (Rgn.bq HB.out) hb); have NB355_396 := Aside0.mk (Rgn.nl hg BK355.out); have NB396_355 := Aside0.mk (Rgn.ng hg BK355.out); replace BK355 := Aside0.mk (Rgn.bb BK355.out hb); have NB370_396 := Aside0.mk (Rgn.nl hg BK370.out); have NB396_370 := Aside0.mk (Rgn.ng hg BK370.out); replace BK370 := Aside0.mk (Rgn.bb BK370.out hb); clear hb hbox hg; have hnb59 := NB396_355.out; have hnc59 := NB355_396.out; have hnb60 := NB396_370.out; have hnc60 := NB370_396.out; obtain ⟨hcz61_0, hcz61_1, hcz61_2, hcz61_3, hcz61_4, hcz61_5, hcz61_6, hcz61_7, hcz61_8, hfz61_0, hfz61_1, hfz61_2, hfz61_3, hfz61_4, hfz61_5, hfz61_6, hfz61_7, hfz61_8⟩ := Rgn.cf9 BK396.out; obtain ⟨Ao62, co62, eo62⟩ := Kd.R_slice HO395.out; subst eo62; obtain ⟨hcz63_0, hcz63_1, hcz63_2, hcz63_3, hcz63_4, hcz63_5, hcz63_6, hcz63_7, hcz63_8, hfz63_0, hfz63_1, hfz63_2, hfz63_3, hfz63_4, hfz63_5, hfz63_6, hfz63_7, hfz63_8⟩ := Rgn.cf9 BK355.out) | ((with_reducible refine gate_callee (f := 9) rfl ?_); refine Rgn.gl (some 56) Tryd.func9 #[.agg #[.int .i64 t385, .int .i64 t386, .string t387, .string t388, .int .i64 t389, .int .i64 t390, .int .i64 t391, .string t392, .slice Ao62 t393.length co62], .agg #[.int .i64 t344, .int .i64 t345, .string t346, .string t347, .int .i64 t348, .int .i64 t349, .int .i64 t350, .string t351, .slice Ao19 t352.length co19]] ?_; (with_reducible refine (laws_eqLine.calls kj12 t385 t386 t387 t388 t389 t390 t391 t392 _ _ t393 t344 t345 t346 t347 t348 t349 t350 t351 _ _ t352 true _ ?side1 ?side2 ?side3 ?side4 A45.out).mono ?_); (case side1 => refine (Kd.R_reads' (e := 2) (base := w.heap.size) (ok := fun k_ => ((True ∧ some k_ ≠ (.slice Ao19 t352.length co19 : Value).ownBlock) ∧ some k_ ≠ (.slice Ao26 t367.length co26 : Value).ownBlock)) (n := t393.length) (c := co62) ?_).2.2; exact (Rgn.rq (Kd.R_mono (Kd.R_far (p := ⟨gb396, 8, none⟩) (Kd.R_far (p := ⟨gb396, 7, none⟩) (Kd.R_far (p := ⟨gb396, 6, none⟩) (Kd.R_far (p := ⟨gb396, 5, none⟩) (Kd.R_far (p := ⟨gb396, 4, none⟩) (Kd.R_far (p := ⟨gb396, 3, none⟩) (Kd.R_far (p := ⟨gb396, 2, none⟩) (Kd.R_far (p := ⟨gb396, 1, none⟩) (Kd.R_far (p := ⟨gb396, 0, none⟩) (Kd.R_types HO395.out BK396.out (by decide)) (fun _ hk => hk.2) (.int .i64 t385)) (fun _ hk => hk.2) (.int .i64 t386)) (fun _ hk => hk.2) (.string t387)) (fun _ hk => hk.2) (.string t388)) (fun _ hk => hk.2) (.int .i64 t389)) (fun _ hk => hk.2) (.int .i64 t390)) (fun _ hk => hk.2) (.int .i64 t391)) (fun _ hk => hk.2) (.string t392)) (fun _ hk => hk.2) (.slice Ao62 t393.length co62)) (fun _ h_ => h_.1)))); (case side2 => exact (Kd.R_reads' HO395.out).2.1); (case side3 => refine (Kd.R_reads' (e := 2) (base := w.heap.size) (ok := fun k_ => (some k_ ≠ (.slice Ao26 t367.length co26 : Value).ownBlock ∧ some k_ ≠ (.slice Ao62 t393.length co62 : Value).ownBlock)) (n := t352.length) (c := co19) ?_).2.2; exact (Rgn.rq (Kd.R_mono (Kd.R_far (p := ⟨gb396, 8, none⟩) (Kd.R_far (p := ⟨gb396, 7, none⟩) (Kd.R_far (p := ⟨gb396, 6, none⟩) (Kd.R_far (p := ⟨gb396, 5, none⟩) (Kd.R_far (p := ⟨gb396, 4, none⟩) (Kd.R_far (p := ⟨gb396, 3, none⟩) (Kd.R_far (p := ⟨gb396, 2, none⟩) (Kd.R_far (p := ⟨gb396, 1, none⟩) (Kd.R_far (p := ⟨gb396, 0, none⟩) (Kd.R_types HO_356008.out BK396.out (by decide)) (fun _ hk => hk.2) (.int .i64 t385)) (fun _ hk => hk.2) (.int .i64 t386)) (fun _ hk => hk.2) (.string t387)) (fun _ hk => hk.2) (.string t388)) (fun _ hk => hk.2) (.int .i64 t389)) (fun _ hk => hk.2) (.int .i64 t390)) (fun _ hk => hk.2) (.int .i64 t391)) (fun _ hk => hk.2) (.string t392)) (fun _ hk => hk.2) (.slice Ao62 t393.length co62)) (fun _ h_ => h_.1)))); (case side4 => exact (Kd.R_reads' HO_356008.out).2.1); rintro e w64 ⟨rfl, hb⟩; refine ⟨_, rfl, ?_⟩; replace HO_356008 := Aside0.mk (Kd.R_below (Rgn.rq (Kd.R_mono (Kd.R_far (p := ⟨gb396, 8, none⟩) (Kd.R_far (p := ⟨gb396, 7, none⟩) (Kd.R_far (p := ⟨gb396, 6, none⟩) (Kd.R_far (p := ⟨gb396, 5, none⟩) (Kd.R_far (p := ⟨gb396, 4, none⟩) (Kd.R_far (p := ⟨gb396, 3, none⟩) (Kd.R_far (p := ⟨gb396, 2, none⟩) (Kd.R_far (p := ⟨gb396, 1, none⟩) (Kd.R_far (p := ⟨gb396, 0, none⟩) (Kd.R_types HO_356008.out BK396.out (by decide)) (fun _ hk => hk.2) (.int .i64 t385)) (fun _ hk => hk.2) (.int .i64 t386)) (fun _ hk => hk.2) (.string t387)) (fun _ hk => hk.2) (.string t388)) (fun _ hk => hk.2) (.int .i64 t389)) (fun _ hk => hk.2) (.int .i64 t390)) (fun _ hk => hk.2) (.int .i64 t391)) (fun _ hk => hk.2) (.string t392)) (fun _ hk => hk.2) (.slice Ao62 t393.length co62)) (fun _ h_ => h_.1))) hb); replace HO_371008 := Aside0.mk (Kd.R_below (Rgn.rq (Kd.R_mono (Kd.R_far (p := ⟨gb396, 8, none⟩) (Kd.R_far (p := ⟨gb396, 7, none⟩) (Kd.R_far (p := ⟨gb396, 6, none⟩) (Kd.R_far (p := ⟨gb396, 5, none⟩) (Kd.R_far (p := ⟨gb396, 4, none⟩) (Kd.R_far (p := ⟨gb396, 3, none⟩) (Kd.R_far (p := ⟨gb396, 2, none⟩) (Kd.R_far (p := ⟨gb396, 1, none⟩) (Kd.R_far (p := ⟨gb396, 0, none⟩) (Kd.R_types HO_371008.out BK396.out (by decide)) (fun _ hk => hk.2) (.int .i64 t385)) (fun _ hk => hk.2) (.int .i64 t386)) (fun _ hk => hk.2) (.string t387)) (fun _ hk => hk.2) (.string t388)) (fun _ hk => hk.2) (.int .i64 t389)) (fun _ hk => hk.2) (.int .i64 t390)) (fun _ hk => hk.2) (.int .i64 t391)) (fun _ hk => hk.2) (.string t392)) (fun _ hk => hk.2) (.slice Ao62 t393.length co62)) (fun _ h_ => h_.1))) hb); replace HO384 := Aside0.mk (Kd.R_below (Rgn.rq (Kd.R_mono (Kd.R_far (p := ⟨gb396, 8, none⟩) (Kd.R_far (p := ⟨gb396, 7, none⟩) (Kd.R_far (p := ⟨gb396, 6, none⟩) (Kd.R_far (p := ⟨gb396, 5, none⟩) (Kd.R_far (p := ⟨gb396, 4, none⟩) (Kd.R_far (p := ⟨gb396, 3, none⟩) (Kd.R_far (p := ⟨gb396, 2, none⟩) (Kd.R_far (p := ⟨gb396, 1, none⟩) (Kd.R_far (p := ⟨gb396, 0, none⟩) (Kd.R_types HO384.out BK396.out (by decide)) (fun _ hk => hk.2) (.int .i64 t385)) (fun _ hk => hk.2) (.int .i64 t386)) (fun _ hk => hk.2) (.string t387)) (fun _ hk => hk.2) (.string t388)) (fun _ hk => hk.2) (.int .i64 t389)) (fun _ hk => hk.2) (.int .i64 t390)) (fun _ hk => hk.2) (.int .i64 t391)) (fun _ hk => hk.2) (.string t392)) (fun _ hk => hk.2) (.slice Ao62 t393.length co62)) (fun _ h_ => h_.1))) hb); replace HO395 := Aside0.mk (Kd.R_below (Rgn.rq (Kd.R_mono (Kd.R_far (p := ⟨gb396, 8, none⟩) (Kd.R_far (p := ⟨gb396, 7, none⟩) (Kd.R_far (p := ⟨gb396, 6, none⟩) (Kd.R_far (p := ⟨gb396, 5, none⟩) (Kd.R_far (p := ⟨gb396, 4, none⟩) (Kd.R_far (p := ⟨gb396, 3, none⟩) (Kd.R_far (p := ⟨gb396, 2, none⟩) (Kd.R_far (p := ⟨gb396, 1, none⟩) (Kd.R_far (p := ⟨gb396, 0, none⟩) (Kd.R_types HO395.out BK396.out (by decide)) (fun _ hk => hk.2) (.int .i64 t385)) (fun _ hk => hk.2) (.int .i64 t386)) (fun _ hk => hk.2) (.string t387)) (fun _ hk => hk.2) (.string t388)) (fun _ hk => hk.2) (.int .i64 t389)) (fun _ hk => hk.2) (.int .i64 t390)) (fun _ hk => hk.2) (.int .i64 t391)) (fun _ hk => hk.2) (.string t392)) (fun _ hk => hk.2) (.slice Ao62 t393.length co62)) (fun _ h_ => h_.1))) hb); replace BK355 := Aside0.mk (blk_below (g := gb355) (o := .cells #[.int .i64 t344, .int .i64 t345, .string t346, .string t347, .int .i64 t348, .int .i64 t349, .int .i64 t350, .string t351, .slice Ao19 t352.length co19] 27 (0, 0)) (Rgn.kf BK355.out) hb); replace BK370 := Aside0.mk (blk_below (g := gb370) (o := .cells #[.int .i64 t359, .int .i64 t360, .string t361, .string t362, .int .i64 t363, .int .i64 t364, .int .i64 t365, .string t366, .slice Ao26 t367.length co26] 27 (0, 0)) (Rgn.kf BK370.out) hb); replace BK396 := Aside0.mk (blk_below (g := gb396) (o := .cells #[.int .i64 t385, .int .i64 t386, .string t387, .string t388, .int .i64 t389, .int .i64 t390, .int .i64 t391, .string t392, .slice Ao62 t393.length co62] 27 (0, 0)) (by exact Rgn.put9 (Rgn.kf BK396.out)) hb); replace HB := Aside0.mk (below_step (Rgn.bq HB.out) hb); (try clear hb); (try clear hk); obtain ⟨hcz65_0, hcz65_1, hcz65_2, hcz65_3, hcz65_4, hcz65_5, hcz65_6, hcz65_7, hcz65_8, hfz65_0, hfz65_1, hfz65_2, hfz65_3, hfz65_4, hfz65_5, hfz65_6, hfz65_7, hfz65_8⟩ := Rgn.cf9 BK370.out) | ((with_reducible refine gate_callee (f := 13) rfl ?_); refine goesL_ (some 60) rfl rfl Tryd.func13 (by kernel_rfl) rfl #[.agg #[.int .i64 t359, .int .i64 t360, .string t361, .string t362, .int .i64 t363, .int .i64 t364, .int .i64 t365, .string t366, .slice Ao26 t380.length co26], .int .i64 1] rfl (by (try simp only [List.map_toArray, List.map_cons, List.map_nil]); first | done | (rw [show t380.length = t367.length from (Kd.R_reads' HO_371008.out).1.symm] <;> rfl) | rfl | (simp only [List.length_drop, List.length_take]; rfl)) ?_; (with_reducible refine (laws_heldLine.calls kj12 t359 t360 t361 t362 t363 t364 t365 t366 _ _ t380 1 t398 _ ?side1 ?side2 A47.out).mono ?_); (case side1 => exact Rgn.cq (Kd.R_reads' HO_371008.out).2.2); (case side2 => rw [show t380.length = t367.length from (Kd.R_reads' HO_371008.out).1.symm]; exact (Kd.R_reads' HO_371008.out).2.1); rintro e w66 ⟨rfl, hb⟩; refine ⟨_, rfl, ?_⟩; replace HO_356008 := Aside0.mk (Kd.R_below (Rgn.rq HO_356008.out) hb); replace HO_371008 := Aside0.mk (Kd.R_below (Rgn.rq HO_371008.out) hb); replace HO384 := Aside0.mk (Kd.R_below (Rgn.rq HO384.out) hb); replace HO395 := Aside0.mk (Kd.R_below (Rgn.rq HO395.out) hb); replace BK355 := Aside0.mk (Rgn.bb BK355.out hb); replace BK370 := Aside0.mk (Rgn.bb BK370.out hb); replace BK396 := Aside0.mk (Rgn.bb BK396.out hb); replace HB := Aside0.mk (below_step (Rgn.bq HB.out) hb); (try clear hb)))
            go_ret
            exact ⟨by first | rfl | (simp [errW_none, errW_some] <;> rfl) | (simp [*, errW_none, errW_some] <;> rfl), Rgn.bq HB.out⟩
           ·
            rw [if_neg c49] at H
            have c49b0 : (t398 == t379) = false := beq_eq_false_iff_ne.mpr c49
            have c49b1 : (t398 != t379) = true := bne_iff_ne.mpr c49
            exact absurd ((Option.some.inj H).trans hrt.out) (by simp)
         ·
          replace c46 := Bool.eq_false_iff.mpr c46
          subst c46
          replace H := Rgn.im H
          exact absurd ((Option.some.inj H).trans hrt.out) (by simp)
        ·
         rw [if_neg c42] at H
         have c42b0 : (t381 == t379) = false := beq_eq_false_iff_ne.mpr c42
         have c42b1 : (t381 != t379) = true := bne_iff_ne.mpr c42
         exact absurd ((Option.some.inj H).trans hrt.out) (by simp)
   ·
    replace c11 := Bool.eq_false_iff.mpr c11
    subst c11
    replace H := Rgn.im H
    exact absurd ((Option.some.inj H).trans hrt.out) (by simp)
  ·
   replace c8 := Bool.eq_false_iff.mpr c8
   subst c8
   replace H := Rgn.im H
   exact absurd ((Option.some.inj H).trans hrt.out) (by simp)

/-- THE ONE PURE STATEMENT of laws_FnExactParseLine: yours. -/
def laws_FnExactParseLine.Pure : Prop := ∀ (l0 : List Int), l0.length ≤ maxLen → l0.length * 1 ≤ 140737488351232 → (∀ x ∈ l0, (Lit.int .u8 x).wf = true) → ∃ k, laws_FnExactParseLine.f k l0 = some true
theorem laws_FnExactParseLine.walk (P : laws_FnExactParseLine.Pure) (a0 : Option Addr) (len0 cap0 : Nat) (z0 : List Int) (w : World) (hG0 : Shp.GlobS w) (w0 : (a0 = none ∧ len0 = 0 ∧ cap0 = 0 ∧ z0 = []) ∨ ∃ x, a0 = some x ∧ len0 ≤ cap0 ∧ cap0 ≤ maxLen ∧ z0.length = cap0 ∧ (∀ i, i < z0.length → w.cell? (x.add i) = some (.int .u8 (z0.getD i 0))) ∧ ∀ n ∈ z0, (Lit.int .u8 n).wf = true) (y0 : len0 * 1 ≤ 140737488351232) :
  Calls Tryd.prog 3 #[.slice a0 len0 cap0] w fun e w' => e = .returned (.bool true) ∧ Below w.heap.size w w' := by
 obtain ⟨l0, rfl, hr0, hm0, hw0, hc0⟩ := ReadsInt.ofRowC w0
 obtain ⟨k, h⟩ := P l0 hm0 y0 hw0
 refine (laws_FnExactParseLine.calls k _ _ l0 true w (Kd.C_of_reads (d := (0 : Int)) (h1 := fun _ => rfl) hr0) hc0 h ⟨rfl⟩ hG0).mono ?_
 rintro e w' ⟨rfl, hd⟩
 exact ⟨rfl, hd⟩

end Go.Proofs.YtkehfdadplpaeaaDoor.PFnExactParseLine
