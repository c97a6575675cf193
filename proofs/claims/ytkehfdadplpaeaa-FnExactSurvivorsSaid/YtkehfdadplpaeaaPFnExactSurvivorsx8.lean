-- written by a program of this session (wip/src/print2.py)
import Derived.Test.YtkehfdadplpaeaaPFnExactSurvivorsx0
import Derived.Test.YtkehfdadplpaeaaPFnExactSurvivorsx1
import Derived.Test.YtkehfdadplpaeaaPFnExactSurvivorsx3
import Derived.Test.YtkehfdadplpaeaaPFnExactSurvivorsx4
import Derived.Test.YtkehfdadplpaeaaPFnExactSurvivorsx5
import Derived.Test.YtkehfdadplpaeaaPFnExactSurvivorsx6
import Derived.Test.YtkehfdadplpaeaaPFnExactSurvivorsx7
namespace Go.Proofs.Ytkehfdadplpaeaa.PFnExactSurvivors
open Go.RowKit Go.Proofs.YtkehfdadplpaeaaW.PrintWords Go.Proofs.YtkehfdadplpaeaaW.PrintLast Go.Proofs.YtkehfdadplpaeaaW.PrintMore
attribute [local go_sem] max2_int min2_int max_two min_two max_three min_three max_four min_four   -- for this text's walks alone
set_option linter.unusedVariables false
set_option linter.unusedSimpArgs false

/-! ### laws_heldHomeS: function 20 -/
def laws_heldHomeS.l0 : Nat → List (S61) → Int → Int → Option (Int)
 | 0, _, _, _ => none
 | k + 1, x0, x1, x5 => if x5 < (x0.length : Int) then (if 0 ≤ x5 then (if ((rd_T61 x0 x5).f0) = x1 then ((laws_heldByteS.f k ((rd_T61 x0 x5).f1) (wrap64 (x1 + 1))).bind fun t242 => (if t242 < 0 then (some (-1)) else (laws_heldHomeS.l0 k x0 t242 (wrap64 (x5 + 1))))) else (some (-1))) else (none)) else (some x1)
def laws_heldHomeS.f (k : Nat) (l0 : List (S61)) (a1 : Int) : Option (Int) := laws_heldHomeS.l0 k l0 a1 0
set_option maxHeartbeats 8000000 in
set_option maxRecDepth 100000 in
theorem laws_heldHomeS.calls (k : Nat) (A0 : Option Addr) (c0 : Nat) (l0 : List (S61)) (a1 : Int) (r : Int) (w : World) (hr0 : Kd.C k61 w A0 l0.length l0) (hc0 : l0.length ≤ c0) (h : laws_heldHomeS.f k l0 a1 = some r) :
  Calls Try.prog 20 #[.slice A0 l0.length c0, .int .i64 a1] w fun e w' => e = .returned (.int .i64 r) ∧ Drawn0 w w' := by
 have HR0 := Aside0.mk hr0
 have HC0 := Aside0.mk hc0
 clear hr0 hc0
 have H : (laws_heldHomeS.l0 k l0 a1 0) = some r := h
 clear h
 have H' := Aside0.mk H
 clear H
 go_enter Try.func20, Try.ntmps20
 go_wp2
 go_loopg [1, 5] k (fun kq v1 v5 w' => ∃ (x1_1 : Int) (x5_1 : Int), v1 = .int .i64 x1_1 ∧ v5 = .int .i64 x5_1 ∧ Aside0 (laws_heldHomeS.l0 kq l0 x1_1 x5_1 = some r) ∧ Aside0 (kq ≤ k) ∧ Drawn0 w w')
 case atStart => exact ⟨(a1), (0), (by first | rfl | (simp; done) | (simp [*]; done)), (by first | rfl | (simp; done) | (simp [*]; done)), H', ⟨Nat.le_refl _⟩, by repeat (first | exact Drawn0.refl _ | apply Drawn0.step)⟩
 case round =>
  clear H'
  try clear c2
  try clear p2
  obtain ⟨x1_1, x5_1, rfl, rfl, HA, HK1, ⟨m1, rfl⟩⟩ := hrel
  cases gk with
  | zero => exact absurd HA.out (by simp [laws_heldHomeS.l0])
  | succ k1 =>
   have H := HA.out
   clear HA
   simp only [laws_heldHomeS.l0] at H
   by_cases c3 : x5_1 < (l0.length : Int)
   ·
    rw [if_pos c3] at H
    have c3b0 : decide (x5_1 < (l0.length : Int)) = true := decide_eq_true c3
    clear c3
    by_cases c4 : 0 ≤ x5_1
    ·
     rw [if_pos c4] at H
     have c4b0 : decide (0 ≤ x5_1) = true := decide_eq_true c4
     clear c4
     by_cases c5 : ((rd_T61 l0 x5_1).f0) = x1_1
     ·
      rw [if_pos c5] at H
      have c5b0 : (((rd_T61 l0 x5_1).f0) == x1_1) = true := beq_iff_eq.mpr c5
      have c5b1 : (((rd_T61 l0 x5_1).f0) != x1_1) = false := bne_eq_false_iff_eq.mpr c5
      clear c5
      replace H := Option.bind_eq_some_iff.mp H
      obtain ⟨t242, A60, H⟩ := H
      replace H : (if t242 < 0 then (some (-1)) else (laws_heldHomeS.l0 k1 l0 t242 (wrap64 (x5_1 + 1)))) = some r := H
      have A6 := Aside0.mk A60
      clear A60
      by_cases c7 : t242 < 0
      ·
       rw [if_pos c7] at H
       have c7b0 : decide (t242 < 0) = true := decide_eq_true c7
       clear c7
       obtain rfl := Option.some.inj H
       have p240 : 0 ≤ (x5_1 : Int) := of_decide_eq_true (by first | (with_reducible assumption) | assumption)
       have q240 : x5_1 < (l0.length : Int) := of_decide_eq_true (by first | (with_reducible assumption) | assumption)
       obtain ⟨ad240, A240_1, c240_1, e240, hx240_0, hx240_1, hl240_1, hi240_1⟩ := at_T61 HR0.out x5_1 p240 q240
       cases e240
       have HR240_1 := Aside0.mk hi240_1
       have HC240_1 := Aside0.mk hl240_1
       clear hi240_1 hl240_1
       replace p240 := eq_true p240
       replace q240 := eq_true q240
       have p241 : 0 ≤ (x5_1 : Int) := of_decide_eq_true (by first | (with_reducible assumption) | assumption)
       have q241 : x5_1 < (l0.length : Int) := of_decide_eq_true (by first | (with_reducible assumption) | assumption)
       obtain ⟨ad241, A241_1, c241_1, e241, hx241_0, hx241_1, hl241_1, hi241_1⟩ := at_T61 HR0.out x5_1 p241 q241
       obtain rfl : ad240 = ad241 := (by injection e241)
       have HR241_1 := Aside0.mk hi241_1
       have HC241_1 := Aside0.mk hl241_1
       clear hi241_1 hl241_1
       replace p241 := eq_true p241
       replace q241 := eq_true q241
       have ea_ := Option.some.inj (hx240_1.symm.trans hx241_1)
       injection ea_ with ea_ en_ ec_
       subst ea_
       subst ec_
       clear en_
       go_wp2_with (first | ((with_reducible refine gate_callee (f := 39) rfl ?_); refine Rgn.gl (some 27) Try.func39 #[.slice A240_1 ((rd_T61 l0 x5_1).f1).length c240_1, .int .i64 (wrap64 (x1_1 + 1))] ?_; (with_reducible refine (laws_heldByteS.calls k1 _ _ ((rd_T61 l0 x5_1).f1) (wrap64 (x1_1 + 1)) t242 _ ?side1 ?side2 A6.out).mono ?_); (case side1 => repeat (first | exact HR241_1.out | (with_reducible refine Kd.C_alloc ?_ _) | (with_reducible refine Kd.C_drewN ?_ _) | (with_reducible refine Kd.C_drew ?_))); (case side2 => exact HC241_1.out); rintro e w' ⟨rfl, ⟨nd, rfl⟩⟩; refine ⟨_, rfl, ?_⟩))
       go_ret
       exact ⟨by first | rfl | (simp; done) | (simp [*]; done), by repeat (first | exact Drawn0.refl _ | apply Drawn0.step)⟩
      ·
       rw [if_neg c7] at H
       have c7b0 : decide (t242 < 0) = false := decide_eq_false c7
       clear c7
       have H' := Aside0.mk H
       clear H
       have p240 : 0 ≤ (x5_1 : Int) := of_decide_eq_true (by first | (with_reducible assumption) | assumption)
       have q240 : x5_1 < (l0.length : Int) := of_decide_eq_true (by first | (with_reducible assumption) | assumption)
       obtain ⟨ad240, A240_1, c240_1, e240, hx240_0, hx240_1, hl240_1, hi240_1⟩ := at_T61 HR0.out x5_1 p240 q240
       cases e240
       have HR240_1 := Aside0.mk hi240_1
       have HC240_1 := Aside0.mk hl240_1
       clear hi240_1 hl240_1
       replace p240 := eq_true p240
       replace q240 := eq_true q240
       have p241 : 0 ≤ (x5_1 : Int) := of_decide_eq_true (by first | (with_reducible assumption) | assumption)
       have q241 : x5_1 < (l0.length : Int) := of_decide_eq_true (by first | (with_reducible assumption) | assumption)
       obtain ⟨ad241, A241_1, c241_1, e241, hx241_0, hx241_1, hl241_1, hi241_1⟩ := at_T61 HR0.out x5_1 p241 q241
       obtain rfl : ad240 = ad241 := (by injection e241)
       have HR241_1 := Aside0.mk hi241_1
       have HC241_1 := Aside0.mk hl241_1
       clear hi241_1 hl241_1
       replace p241 := eq_true p241
       replace q241 := eq_true q241
       have ea_ := Option.some.inj (hx240_1.symm.trans hx241_1)
       injection ea_ with ea_ en_ ec_
       subst ea_
       subst ec_
       clear en_
       go_wp2_with (first | ((with_reducible refine gate_callee (f := 39) rfl ?_); refine Rgn.gl (some 27) Try.func39 #[.slice A240_1 ((rd_T61 l0 x5_1).f1).length c240_1, .int .i64 (wrap64 (x1_1 + 1))] ?_; (with_reducible refine (laws_heldByteS.calls k1 _ _ ((rd_T61 l0 x5_1).f1) (wrap64 (x1_1 + 1)) t242 _ ?side1 ?side2 A6.out).mono ?_); (case side1 => repeat (first | exact HR241_1.out | (with_reducible refine Kd.C_alloc ?_ _) | (with_reducible refine Kd.C_drewN ?_ _) | (with_reducible refine Kd.C_drew ?_))); (case side2 => exact HC241_1.out); rintro e w' ⟨rfl, ⟨nd, rfl⟩⟩; refine ⟨_, rfl, ?_⟩))
       go_roundg k1
       case measure => have := HK1.out; omega
       case rel => exact ⟨(t242), (wrap64 (x5_1 + 1)), (by first | rfl | (simp; done) | (simp [*]; done)), (by first | rfl | (simp; done) | (simp [*]; done)), H', ⟨by have := HK1.out; omega⟩, by repeat (first | exact Drawn0.refl _ | apply Drawn0.step)⟩
     ·
      rw [if_neg c5] at H
      have c5b0 : (((rd_T61 l0 x5_1).f0) == x1_1) = false := beq_eq_false_iff_ne.mpr c5
      have c5b1 : (((rd_T61 l0 x5_1).f0) != x1_1) = true := bne_iff_ne.mpr c5
      obtain rfl := Option.some.inj H
      have p240 : 0 ≤ (x5_1 : Int) := of_decide_eq_true (by first | (with_reducible assumption) | assumption)
      have q240 : x5_1 < (l0.length : Int) := of_decide_eq_true (by first | (with_reducible assumption) | assumption)
      obtain ⟨ad240, A240_1, c240_1, e240, hx240_0, hx240_1, hl240_1, hi240_1⟩ := at_T61 HR0.out x5_1 p240 q240
      cases e240
      have HR240_1 := Aside0.mk hi240_1
      have HC240_1 := Aside0.mk hl240_1
      clear hi240_1 hl240_1
      replace p240 := eq_true p240
      replace q240 := eq_true q240
      go_wp2
      go_ret
      exact ⟨by first | rfl | (simp; done) | (simp [*]; done), by repeat (first | exact Drawn0.refl _ | apply Drawn0.step)⟩
    ·
     rw [if_neg c4] at H
     exact absurd H (by simp)
   ·
    rw [if_neg c3] at H
    have c3b0 : decide (x5_1 < (l0.length : Int)) = false := decide_eq_false c3
    clear c3
    obtain rfl := Option.some.inj H
    go_wp2
    go_ret
    exact ⟨by first | rfl | (simp; done) | (simp [*]; done), by repeat (first | exact Drawn0.refl _ | apply Drawn0.step)⟩

/-! ### laws_FnExactSurvivors: function 4 -/
section
/-- The law's road, told of the functions' plain forms. -/
def laws_FnExactSurvivors.Good (l0 : List S27) : Prop :=
  ∃ t, (∃ k, laws_szTxnS.f k l0 1048576 = some t) ∧ (t < 0 ∨ ∃ (x : List S34) (s : List S61) (m : Int) (g : List S61), (∃ k, laws_toTxnS.f k l0 = some x) ∧ (∃ k, spec_Survivors.f k x = some s) ∧ SV.Fit x ∧ (∃ k, laws_eqHomeS.f k (SV.f x) s = some true) ∧ (∃ k, laws_eqTxnS.f k x x = some true) ∧
    1 + (MS.st (MS.len x) : Int) ≤ 4611686018427387904 ∧ (∃ k, laws_markHomeS.f k (SV.f x) 1 = some (m, g)) ∧ (∃ k, laws_heldHomeS.f k g 1 = some m) ∧ 0 ≤ m)
open Classical in
noncomputable def laws_FnExactSurvivors.f (_ : Nat) (l0 : List S27) : Option Bool := if laws_FnExactSurvivors.Good l0 then some true else none
theorem laws_FnExactSurvivors.keep {w w4 a b : World} {S : Nat → Prop} (h1 : Below w.heap.size w a) (h2 : Below w.heap.size w b) (hv : Below w4.heap.size w4 a) (hk : Kept a b S) (hs : ∀ k, S k → w4.heap.size ≤ k) : Below w4.heap.size w4 b :=
  ⟨h2.os.trans (h1.os.symm.trans hv.os), h2.tape.trans (h1.tape.symm.trans hv.tape), h2.output.trans (h1.output.symm.trans hv.output), Nat.le_trans hv.size hk.1, fun k hk' => (hk.2 k (Nat.lt_of_lt_of_le hk' hv.size) (fun h_ => by have := hs k h_; omega)).trans (hv.block k hk')⟩
theorem laws_FnExactSurvivors.drawn {a b : World} (h : Drawn0 a b) : Below a.heap.size a b := by obtain ⟨nd, rfl⟩ := h; exact pw_below_drewN (Below.refl _ _) nd
set_option maxHeartbeats 16000000 in
set_option maxRecDepth 100000 in
theorem laws_FnExactSurvivors.calls (k : Nat) (A0 : Option Addr) (c0 : Nat) (l0 : List S27) (r : Bool) (w : World) (hr0 : Kd.C k27 w A0 l0.length l0) (hc0 : l0.length ≤ c0) (h : laws_FnExactSurvivors.f k l0 = some r) (hrt : Aside0 (r = true)) :
    Calls Try.prog 4 #[.slice A0 l0.length c0] w fun e w' => e = .returned (.bool r) ∧ Below w.heap.size w w' := by
  obtain rfl := hrt.out
  clear hrt
  have HR0 := Aside0.mk hr0
  have HC0 := Aside0.mk hc0
  clear hr0 hc0
  have HB := Aside0.mk (Below.refl w.heap.size w)
  have hG : laws_FnExactSurvivors.Good l0 := by
    unfold laws_FnExactSurvivors.f at h
    split at h
    · assumption
    · cases h
  clear h
  obtain ⟨t, ⟨k1, j1⟩, hG⟩ := hG
  have J1 := Aside0.mk j1
  clear j1
  by_cases ct : t < 0
  case pos =>
    have c2b0 : decide (t < 0) = true := decide_eq_true ct
    clear ct hG
    go_enter Try.func4, Try.ntmps4
    go_wp2_with (first
      | ((with_reducible refine gate_callee (f := 12) rfl ?_); refine Rgn.gl (some 13) Try.func12 #[.slice A0 l0.length c0, .int .i64 1048576] ?_; (refine (laws_szTxnS.calls k1 _ _ l0 1048576 t _ (Kd.C_below HR0.out HB.out) HC0.out J1.out).mono ?_); rintro e w2 ⟨rfl, hb⟩; refine ⟨_, rfl, ?_⟩; replace HB := Aside0.mk (below_step HB.out hb); clear hb)
      | fail)
    go_ret
    exact ⟨rfl, HB.out⟩
  have c2b0 : decide (t < 0) = false := decide_eq_false ct
  obtain ⟨x, s, m, g, ⟨k2, j2⟩, ⟨k3, j3⟩, j4, ⟨k5, j5⟩, ⟨k6, j6⟩, j7, ⟨k8, j8⟩, ⟨k9, j9⟩, j10⟩ := hG.resolve_left ct
  have J2 := Aside0.mk j2; have J3 := Aside0.mk j3; have J4 := Aside0.mk j4; have J5 := Aside0.mk j5; have J6 := Aside0.mk j6; have J7 := Aside0.mk j7; have J8 := Aside0.mk j8; have J9 := Aside0.mk j9
  have c3b0 : decide (1 + ((MS.st (MS.len x) : Nat) : Int) < 0) = false := decide_eq_false (by omega)
  have c4b0 : decide (m < 0) = false := decide_eq_false (by omega)
  have JL := Aside0.mk (show (MS.len x).length ≤ 4611686018427387904 by unfold MS.len; rw [List.length_map]; have := j4.len; omega)
  clear ct hG j2 j3 j4 j5 j6 j7 j8 j9 j10
  obtain ⟨y, hy⟩ : ∃ y, SV.f x = y := ⟨_, rfl⟩
  rw [hy] at J5 J8
  have JY := Aside0.mk hy
  obtain ⟨k', hk'⟩ : ∃ k', 1 + ((MS.st (MS.len x) : Nat) : Int) = k' := ⟨_, rfl⟩
  rw [hk'] at c3b0
  have JK := Aside0.mk hk'
  clear hy hk'
  go_enter Try.func4, Try.ntmps4
  go_wp2_with (first
    | ((with_reducible refine gate_callee (f := 12) rfl ?_); refine Rgn.gl (some 13) Try.func12 #[.slice A0 l0.length c0, .int .i64 1048576] ?_; (refine (laws_szTxnS.calls k1 _ _ l0 1048576 t _ (Kd.C_below HR0.out HB.out) HC0.out J1.out).mono ?_); rintro e w2 ⟨rfl, hb⟩; refine ⟨_, rfl, ?_⟩; replace HB := Aside0.mk (below_step HB.out hb); clear hb)
    | ((with_reducible refine gate_callee (f := 14) rfl ?_); refine Rgn.gl (some 17) Try.func14 #[.slice A0 l0.length c0] ?_; (refine (laws_toTxnS.calls k2 _ _ l0 x _ (Kd.C_below HR0.out HB.out) HC0.out J2.out).mono ?_); rintro e w3 ⟨v3, rfl, hR, hb⟩; refine ⟨_, rfl, ?_⟩; have HX1 := Aside0.mk hR; replace HB := Aside0.mk (below_step HB.out hb); clear hR hb; obtain ⟨A1, c1, e1⟩ := Kd.R_slice HX1.out; subst e1)
    | ((with_reducible refine gate_callee (f := 13) rfl ?_); refine Rgn.gl (some 18) Try.func13 #[.slice A1 x.length c1] ?_; (refine (spec_Survivors.calls k3 _ _ x s _ (Kd.R_reads' HX1.out).2.2 (Kd.R_reads' HX1.out).2.1 J3.out).mono ?_); rintro e w4 ⟨v4, rfl, hN, hb⟩; refine ⟨_, rfl, ?_⟩; have HW := Aside0.mk (Kd.N_V (base' := 0) hN); replace HB := Aside0.mk (below_step HB.out hb); have HV := Aside0.mk (Below.refl w4.heap.size w4); have H4 := Aside0.mk (below_size HB.out); clear HX1 hN hb; obtain ⟨A4, c4, e4⟩ := Kd.V_slice HW.out; subst e4)
    | ((with_reducible refine gate_callee (f := 14) rfl ?_); refine Rgn.gl (some 20) Try.func14 #[.slice A0 l0.length c0] ?_; (refine (laws_toTxnS.calls k2 _ _ l0 x _ (Kd.C_below HR0.out HB.out) HC0.out J2.out).mono ?_); rintro e w5 ⟨v5, rfl, hR, hb⟩; refine ⟨_, rfl, ?_⟩; have HX : Aside0 (k34.R 34 w5 w4.heap.size (fun k_ => w4.heap.size ≤ k_ ∧ k_ < w5.heap.size) v5 x) := ⟨Kd.R_mono (Kd.R_bound hR) (fun k_ hk => ⟨hk.2.1, hk.2.2.1⟩)⟩; replace HB := Aside0.mk (below_step HB.out hb); replace HV := Aside0.mk (below_step HV.out hb); have H5 := Aside0.mk (below_size HB.out); have H45 := Aside0.mk (below_size HV.out); clear hR hb; obtain ⟨A5, c5, e5⟩ := Kd.R_slice HX.out; subst e5)
    | ((with_reducible refine gate_callee (f := 15) rfl ?_); refine Rgn.gl (some 22) Try.func15 #[.slice A5 x.length c5] ?_; (refine (impl_Survivors.calls _ _ x _ (Kd.R_reads' HX.out).2.2 (Kd.R_reads' HX.out).2.1 J4.out).mono ?_); rintro e w6 ⟨v6, rfl, hS, hb⟩; refine ⟨_, rfl, ?_⟩; rw [JY.out] at hS; have HG : Aside0 (Kd.S k61 61 w6 w5.heap.size (fun k_ => w5.heap.size ≤ k_) v6 y) := ⟨Kd.S_mono (Kd.S_bound hS) (fun k_ hk => hk.2.1)⟩; replace HX := Aside0.mk (Kd.R_below HX.out hb); replace HB := Aside0.mk (below_step HB.out hb); replace HV := Aside0.mk (below_step HV.out hb); clear hS hb; obtain ⟨A6, c6, e6⟩ := Kd.S_slice HG.out; subst e6)
    | ((with_reducible refine gate_callee (f := 16) rfl ?_); refine Rgn.gl (some 25) Try.func16 #[.slice A6 y.length c6, .slice A4 s.length c4] ?_; (refine (laws_eqHomeS.calls k5 _ _ y _ _ s true _ (Kd.S_reads' HG.out).2.2 (Kd.S_reads' HG.out).2.1 (Kd.V_reads' (Kd.V_below HW.out HV.out)).2.2 (Kd.V_reads' (Kd.V_below HW.out HV.out)).2.1 J5.out).mono ?_); rintro e w7 ⟨rfl, hb⟩; refine ⟨_, rfl, ?_⟩; replace HG := Aside0.mk (Kd.S_below HG.out hb); replace HX := Aside0.mk (Kd.R_below HX.out hb); replace HB := Aside0.mk (below_step HB.out hb); replace HV := Aside0.mk (below_step HV.out hb); clear hb)
    | ((with_reducible refine gate_callee (f := 14) rfl ?_); refine Rgn.gl (some 29) Try.func14 #[.slice A0 l0.length c0] ?_; (refine (laws_toTxnS.calls k2 _ _ l0 x _ (Kd.C_below HR0.out HB.out) HC0.out J2.out).mono ?_); rintro e w8 ⟨v8, rfl, hR, hb⟩; refine ⟨_, rfl, ?_⟩; have HX3 := Aside0.mk hR; replace HG := Aside0.mk (Kd.S_below HG.out hb); replace HX := Aside0.mk (Kd.R_below HX.out hb); replace HB := Aside0.mk (below_step HB.out hb); replace HV := Aside0.mk (below_step HV.out hb); clear hR hb; obtain ⟨A7, c7, e7⟩ := Kd.R_slice HX3.out; subst e7)
    | ((with_reducible refine gate_callee (f := 17) rfl ?_); refine Rgn.gl (some 30) Try.func17 #[.slice A5 x.length c5, .slice A7 x.length c7] ?_; (refine (laws_eqTxnS.calls k6 _ _ x _ _ x true _ (Kd.R_reads' HX.out).2.2 (Kd.R_reads' HX.out).2.1 (Kd.R_reads' HX3.out).2.2 (Kd.R_reads' HX3.out).2.1 J6.out).mono ?_); rintro e w9 ⟨rfl, hb⟩; refine ⟨_, rfl, ?_⟩; replace HG := Aside0.mk (Kd.S_below HG.out hb); replace HX := Aside0.mk (Kd.R_below HX.out hb); replace HB := Aside0.mk (below_step HB.out hb); replace HV := Aside0.mk (below_step HV.out hb); clear HX3 hb)
    | ((with_reducible refine gate_callee (f := 18) rfl ?_); refine Rgn.gl (some 34) Try.func18 #[.slice A5 x.length c5, .int .i64 1] ?_; (refine (MS.txns _ _ (MS.len x) 1 _ (MS.of_T HX.out) (by decide) J7.out JL.out).mono ?_); rintro e w10 ⟨rfl, hm⟩; refine ⟨_, rfl, ?_⟩; rw [JK.out]; replace HG := Aside0.mk (Kd.S_kept HG.out hm.kept (fun k_ hk h5 => by have := h5.2; omega)); replace HB := Aside0.mk (hm.below HB.out (fun k_ hk => Nat.le_trans H4.out hk.1)); replace HV := Aside0.mk (hm.below HV.out (fun k_ hk => hk.1)); clear HX hm)
    | (go_at_call 16; (refine (laws_eqHomeS.calls k5 _ _ y _ _ s true _ (Kd.S_reads' HG.out).2.2 (Kd.S_reads' HG.out).2.1 (Kd.V_reads' (Kd.V_below HW.out HV.out)).2.2 (Kd.V_reads' (Kd.V_below HW.out HV.out)).2.1 J5.out).mono ?_); rintro e w11 ⟨rfl, hb⟩; replace HG := Aside0.mk (Kd.S_below HG.out hb); replace HB := Aside0.mk (below_step HB.out hb); replace HV := Aside0.mk (below_step HV.out hb); clear hb)
    | ((with_reducible refine gate_callee (f := 19) rfl ?_); refine Rgn.gl (some 45) Try.func19 #[.slice A6 y.length c6, .int .i64 1] ?_; (refine (laws_markHomeS.calls k8 (fun k_ => w5.heap.size ≤ k_) _ y 1 m g w _ HB.out (Kd.S_lower HG.out H5.out) J8.out).mono ?_); rintro e w12 ⟨rfl, ho, hb, hk⟩; refine ⟨_, rfl, ?_⟩; replace HV := Aside0.mk (laws_FnExactSurvivors.keep HB.out hb HV.out hk (fun k_ hk_ => Nat.le_trans H45.out hk_)); replace HB := Aside0.mk hb; clear HG hb hk; have HG := Aside0.mk ho; have HGL := Aside0.mk (Kd.S_reads' ho).1; clear ho)
    | ((with_reducible refine gate_callee (f := 20) rfl ?_); refine Rgn.gl (some 48) Try.func20 #[.slice A6 y.length c6, .int .i64 1] ?_; rw [HGL.out]; (refine (laws_heldHomeS.calls k9 _ _ g 1 m _ (Kd.S_reads' HG.out).2.2 (by rw [← HGL.out]; exact (Kd.S_reads' HG.out).2.1) J9.out).mono ?_); rintro e w13 ⟨rfl, hd⟩; refine ⟨_, rfl, ?_⟩; have hb := laws_FnExactSurvivors.drawn hd; replace HG := Aside0.mk (Kd.S_below HG.out hb); replace HB := Aside0.mk (below_step HB.out hb); replace HV := Aside0.mk (below_step HV.out hb); clear hd hb)
    | ((with_reducible refine gate_callee (f := 14) rfl ?_); refine Rgn.gl (some 55) Try.func14 #[.slice A0 l0.length c0] ?_; (refine (laws_toTxnS.calls k2 _ _ l0 x _ (Kd.C_below HR0.out HB.out) HC0.out J2.out).mono ?_); rintro e w14 ⟨v14, rfl, hR, hb⟩; refine ⟨_, rfl, ?_⟩; have HX4 := Aside0.mk hR; replace HG := Aside0.mk (Kd.S_below HG.out hb); replace HB := Aside0.mk (below_step HB.out hb); replace HV := Aside0.mk (below_step HV.out hb); clear hR hb; obtain ⟨A8, c8, e8⟩ := Kd.R_slice HX4.out; subst e8)
    | ((with_reducible refine gate_callee (f := 15) rfl ?_); refine Rgn.gl (some 56) Try.func15 #[.slice A8 x.length c8] ?_; (refine (impl_Survivors.calls _ _ x _ (Kd.R_reads' HX4.out).2.2 (Kd.R_reads' HX4.out).2.1 J4.out).mono ?_); rintro e w15 ⟨v15, rfl, hS, hb⟩; refine ⟨_, rfl, ?_⟩; rw [JY.out] at hS; have HH := Aside0.mk hS; replace HG := Aside0.mk (Kd.S_below HG.out hb); replace HB := Aside0.mk (below_step HB.out hb); replace HV := Aside0.mk (below_step HV.out hb); clear HX4 hS hb; obtain ⟨A9, c9, e9⟩ := Kd.S_slice HH.out; subst e9)
    | ((with_reducible refine gate_callee (f := 16) rfl ?_); refine Rgn.gl (some 59) Try.func16 #[.slice A9 y.length c9, .slice A4 s.length c4] ?_; (refine (laws_eqHomeS.calls k5 _ _ y _ _ s true _ (Kd.S_reads' HH.out).2.2 (Kd.S_reads' HH.out).2.1 (Kd.V_reads' (Kd.V_below HW.out HV.out)).2.2 (Kd.V_reads' (Kd.V_below HW.out HV.out)).2.1 J5.out).mono ?_); rintro e w16 ⟨rfl, hb⟩; refine ⟨_, rfl, ?_⟩; replace HG := Aside0.mk (Kd.S_below HG.out hb); replace HB := Aside0.mk (below_step HB.out hb); replace HV := Aside0.mk (below_step HV.out hb); clear HH hb)
    | ((with_reducible refine gate_callee (f := 20) rfl ?_); refine Rgn.gl (some 63) Try.func20 #[.slice A6 g.length c6, .int .i64 1] ?_; (refine (laws_heldHomeS.calls k9 _ _ g 1 m _ (Kd.S_reads' HG.out).2.2 (by rw [← HGL.out]; exact (Kd.S_reads' HG.out).2.1) J9.out).mono ?_); rintro e w17 ⟨rfl, hd⟩; refine ⟨_, rfl, ?_⟩; have hb := laws_FnExactSurvivors.drawn hd; replace HB := Aside0.mk (below_step HB.out hb); clear hd hb HG HV)
    | fail)
  go_ret
  exact ⟨rfl, HB.out⟩
end


end Go.Proofs.Ytkehfdadplpaeaa.PFnExactSurvivors
