-- written by a program of this session (wip/src/print2.py)
import Derived.Test.YtkehfdadplpaeaaDoorPFnExactParseLinex0
import Derived.Test.YtkehfdadplpaeaaDoorPFnExactParseLinex3
import Derived.Test.YtkehfdadplpaeaaDoorPFnExactParseLinex4
namespace Go.Proofs.YtkehfdadplpaeaaDoor.PFnExactParseLine
open Go.RowKit Go.Proofs.YtkehfdadplpaeaaDoorW.PrintWords Go.Proofs.YtkehfdadplpaeaaDoorW.PrintLast Go.Proofs.YtkehfdadplpaeaaDoorW.PrintMore
attribute [local go_sem] max2_int min2_int max_two min_two max_three min_three max_four min_four   -- for this text's walks alone
set_option linter.unusedVariables false
set_option linter.unusedSimpArgs false

/-! ### spec_l14Long: function 30 -/
mutual
def spec_l14Long.j0 : Nat → List ByteArray → Bool → Option (Int × ByteArray × ByteArray × Int × Int × Int × ByteArray × Bool)
 | 0, _, _ => none
 | k + 1, x0, x18 => if x18 = true then (if 1 < (x0.length : Int) then (if 2 < (x0.length : Int) then (some (5, rdOf ByteArray.empty x0 1, rdOf ByteArray.empty x0 2, 0, 0, 0, (⟨#[]⟩ : ByteArray), true)) else (none)) else (none)) else (if 0 < (x0.length : Int) then (if (rdOf ByteArray.empty x0 0).toList = ([108, 105, 110, 107] : List UInt8) then (spec_l14Long.j1 k x0 ((x0.length : Int) == 3)) else (spec_l14Long.j1 k x0 false)) else (none))
def spec_l14Long.j1 : Nat → List ByteArray → Bool → Option (Int × ByteArray × ByteArray × Int × Int × Int × ByteArray × Bool)
 | 0, _, _ => none
 | k + 1, x0, x35 => if x35 = true then (if 1 < (x0.length : Int) then (if 2 < (x0.length : Int) then (some (9, rdOf ByteArray.empty x0 1, rdOf ByteArray.empty x0 2, 0, 0, 0, (⟨#[]⟩ : ByteArray), true)) else (none)) else (none)) else (if 0 < (x0.length : Int) then (if (rdOf ByteArray.empty x0 0).toList = ([115, 121, 109, 108, 105, 110, 107] : List UInt8) then (spec_l14Long.j2 k x0 ((x0.length : Int) == 3)) else (spec_l14Long.j2 k x0 false)) else (none))
def spec_l14Long.j2 : Nat → List ByteArray → Bool → Option (Int × ByteArray × ByteArray × Int × Int × Int × ByteArray × Bool)
 | 0, _, _ => none
 | k + 1, x0, x52 => if x52 = true then (if 1 < (x0.length : Int) then (if 2 < (x0.length : Int) then (some (10, rdOf ByteArray.empty x0 1, rdOf ByteArray.empty x0 2, 0, 0, 0, (⟨#[]⟩ : ByteArray), true)) else (none)) else (none)) else (if 0 < (x0.length : Int) then (if (rdOf ByteArray.empty x0 0).toList = ([97, 112, 112, 101, 110, 100] : List UInt8) then (spec_l14Long.j3 k x0 ((x0.length : Int) == 3)) else (spec_l14Long.j3 k x0 false)) else (none))
def spec_l14Long.j3 : Nat → List ByteArray → Bool → Option (Int × ByteArray × ByteArray × Int × Int × Int × ByteArray × Bool)
 | 0, _, _ => none
 | k + 1, x0, x69 => if x69 = true then (if 2 < (x0.length : Int) then ((spec_Unquote.f k (rdOf ByteArray.empty x0 2)).bind fun bt166 => (if 1 < (x0.length : Int) then (some (8, rdOf ByteArray.empty x0 1, (⟨#[]⟩ : ByteArray), 0, 0, 0, bt166.2, bt166.1)) else (none))) else (none)) else (if 0 < (x0.length : Int) then (if (rdOf ByteArray.empty x0 0).toList = ([119, 114, 105, 116, 101] : List UInt8) then (spec_l14Long.j4 k x0 ((x0.length : Int) == 4)) else (spec_l14Long.j4 k x0 false)) else (none))
def spec_l14Long.j4 : Nat → List ByteArray → Bool → Option (Int × ByteArray × ByteArray × Int × Int × Int × ByteArray × Bool)
 | 0, _, _ => none
 | k + 1, x0, x91 => if x91 = true then (if 2 < (x0.length : Int) then ((spec_l14Number.f k (rdOf ByteArray.empty x0 2)).bind fun bt172 => (if 3 < (x0.length : Int) then ((spec_Unquote.f k (rdOf ByteArray.empty x0 3)).bind fun bt175 => (if 1 < (x0.length : Int) then (if bt172.2 = true then (some (6, rdOf ByteArray.empty x0 1, (⟨#[]⟩ : ByteArray), 0, bt172.1, 0, bt175.2, bt175.1)) else (some (6, rdOf ByteArray.empty x0 1, (⟨#[]⟩ : ByteArray), 0, bt172.1, 0, bt175.2, false))) else (none))) else (none))) else (none)) else (if 0 < (x0.length : Int) then (if (rdOf ByteArray.empty x0 0).toList = ([102, 105, 108, 108] : List UInt8) then (if (x0.length : Int) = 5 then (if 4 < (x0.length : Int) then (if ((rdOf ByteArray.empty x0 4).size : Int) = 1 then (if 0 < ((rdOf ByteArray.empty x0 4).size : Int) then (if (bt (rdOf ByteArray.empty x0 4) 0) ≥ 97 then (spec_l14Long.j5 k x0 (decide ((bt (rdOf ByteArray.empty x0 4) 0) ≤ 122))) else (spec_l14Long.j5 k x0 false)) else (none)) else (spec_l14Long.j5 k x0 false)) else (none)) else (spec_l14Long.j5 k x0 false)) else (spec_l14Long.j5 k x0 false)) else (none))
def spec_l14Long.j5 : Nat → List ByteArray → Bool → Option (Int × ByteArray × ByteArray × Int × Int × Int × ByteArray × Bool)
 | 0, _, _ => none
 | k + 1, x0, x124 => if x124 = true then (if 2 < (x0.length : Int) then ((spec_l14Number.f k (rdOf ByteArray.empty x0 2)).bind fun bt184 => (if 3 < (x0.length : Int) then ((spec_l14Number.f k (rdOf ByteArray.empty x0 3)).bind fun bt187 => (if bt184.2 = true then (if bt187.2 = true then (if bt187.1 < 0 then (some (0, (⟨#[]⟩ : ByteArray), (⟨#[]⟩ : ByteArray), 0, 0, 0, (⟨#[]⟩ : ByteArray), false)) else (if bt187.1 > 3000 then (some (0, (⟨#[]⟩ : ByteArray), (⟨#[]⟩ : ByteArray), 0, 0, 0, (⟨#[]⟩ : ByteArray), false)) else (if 1 < (x0.length : Int) then (if 4 < (x0.length : Int) then (if 0 < ((rdOf ByteArray.empty x0 4).size : Int) then ((spec_l14Letters.f k bt187.1 (bt (rdOf ByteArray.empty x0 4) 0)).bind fun t191 => (some (6, rdOf ByteArray.empty x0 1, (⟨#[]⟩ : ByteArray), 0, bt184.1, 0, t191, true))) else (none)) else (none)) else (none)))) else (some (0, (⟨#[]⟩ : ByteArray), (⟨#[]⟩ : ByteArray), 0, 0, 0, (⟨#[]⟩ : ByteArray), false))) else (some (0, (⟨#[]⟩ : ByteArray), (⟨#[]⟩ : ByteArray), 0, 0, 0, (⟨#[]⟩ : ByteArray), false)))) else (none))) else (none)) else (if 0 < (x0.length : Int) then (if (rdOf ByteArray.empty x0 0).toList = ([116, 114, 117, 110, 99] : List UInt8) then (spec_l14Long.j6 k x0 ((x0.length : Int) == 3)) else (spec_l14Long.j6 k x0 false)) else (none))
def spec_l14Long.j6 : Nat → List ByteArray → Bool → Option (Int × ByteArray × ByteArray × Int × Int × Int × ByteArray × Bool)
 | 0, _, _ => none
 | k + 1, x0, x195 => if x195 = true then (if 2 < (x0.length : Int) then ((spec_l14Number.f k (rdOf ByteArray.empty x0 2)).bind fun bt194 => (if 1 < (x0.length : Int) then (some (7, rdOf ByteArray.empty x0 1, (⟨#[]⟩ : ByteArray), 0, 0, bt194.1, (⟨#[]⟩ : ByteArray), bt194.2)) else (none))) else (none)) else (if 0 < (x0.length : Int) then (if (rdOf ByteArray.empty x0 0).toList = ([114, 101, 97, 100] : List UInt8) then (spec_l14Long.j7 k x0 ((x0.length : Int) == 4)) else (spec_l14Long.j7 k x0 false)) else (none))
def spec_l14Long.j7 : Nat → List ByteArray → Bool → Option (Int × ByteArray × ByteArray × Int × Int × Int × ByteArray × Bool)
 | 0, _, _ => none
 | k + 1, x0, x218 => if x218 = true then (if 2 < (x0.length : Int) then ((spec_l14Number.f k (rdOf ByteArray.empty x0 2)).bind fun bt199 => (if 3 < (x0.length : Int) then ((spec_l14Number.f k (rdOf ByteArray.empty x0 3)).bind fun bt202 => (if 1 < (x0.length : Int) then (if bt199.2 = true then (some (17, rdOf ByteArray.empty x0 1, (⟨#[]⟩ : ByteArray), 0, bt199.1, bt202.1, (⟨#[]⟩ : ByteArray), bt202.2)) else (some (17, rdOf ByteArray.empty x0 1, (⟨#[]⟩ : ByteArray), 0, bt199.1, bt202.1, (⟨#[]⟩ : ByteArray), false))) else (none))) else (none))) else (none)) else (some (0, (⟨#[]⟩ : ByteArray), (⟨#[]⟩ : ByteArray), 0, 0, 0, (⟨#[]⟩ : ByteArray), false))
end
def spec_l14Long.f (k : Nat) (l0 : List ByteArray) : Option (Int × ByteArray × ByteArray × Int × Int × Int × ByteArray × Bool) := if 0 < (l0.length : Int) then (if (rdOf ByteArray.empty l0 0).toList = ([114, 101, 110, 97, 109, 101] : List UInt8) then (spec_l14Long.j0 k l0 ((l0.length : Int) == 3)) else (spec_l14Long.j0 k l0 false)) else (none)
def spec_l14Long.T2 : Bool × List (List Nat × List Nat) := (true, [([], []), ([0], [0]), ([1], [1]), ([], []), ([3], [3]), ([4], [4]), ([2, 5], [2, 5]), ([6, 0, 1, 2, 3, 4, 5, 6], [6]), ([7, 0, 1, 2, 3, 4, 5, 6, 7], [])])
def spec_l14Long.B2 : List Nat := [0, 1, 3, 0, 8, 24, 63, 127, 255]
theorem spec_l14Long.tab2 : rtab .any (opsOf Tryd.f30 2) = spec_l14Long.T2 := by kernel_rfl
theorem spec_l14Long.bits2 : waitsOk spec_l14Long.T2.2 spec_l14Long.B2 = true := by kernel_rfl
def spec_l14Long.T4 : Bool × List (List Nat × List Nat) := (true, [([], []), ([0], [0]), ([1], [1]), ([], []), ([3], [3]), ([4], [4]), ([2, 5], [2, 5]), ([6, 0, 1, 2, 3, 4, 5, 6], [6]), ([7, 0, 1, 2, 3, 4, 5, 6, 7], [])])
def spec_l14Long.B4 : List Nat := [0, 1, 3, 0, 8, 24, 63, 127, 255]
theorem spec_l14Long.tab4 : rtab .any (opsOf Tryd.f30 4) = spec_l14Long.T4 := by kernel_rfl
theorem spec_l14Long.bits4 : waitsOk spec_l14Long.T4.2 spec_l14Long.B4 = true := by kernel_rfl
def spec_l14Long.T6 : Bool × List (List Nat × List Nat) := (true, [([], []), ([0], [0]), ([1], [1]), ([], []), ([3], [3]), ([4], [4]), ([2, 5], [2, 5]), ([6, 0, 1, 2, 3, 4, 5, 6], [6]), ([7, 0, 1, 2, 3, 4, 5, 6, 7], [])])
def spec_l14Long.B6 : List Nat := [0, 1, 3, 0, 8, 24, 63, 127, 255]
theorem spec_l14Long.tab6 : rtab .any (opsOf Tryd.f30 6) = spec_l14Long.T6 := by kernel_rfl
theorem spec_l14Long.bits6 : waitsOk spec_l14Long.T6.2 spec_l14Long.B6 = true := by kernel_rfl
def spec_l14Long.T9 : Bool × List (List Nat × List Nat) := (true, [([], []), ([0], [0]), ([1], [1]), ([], []), ([3], [3]), ([2, 4], [2, 4]), ([], []), ([6], [6]), ([5, 0, 1, 2, 3, 4, 5], [5]), ([7, 8, 0, 1, 2, 3, 4, 5, 6, 7, 8], [7])])
def spec_l14Long.B9 : List Nat := [0, 1, 3, 0, 8, 31, 0, 64, 63, 511]
theorem spec_l14Long.tab9 : rtab .any (opsOf Tryd.f30 9) = spec_l14Long.T9 := by kernel_rfl
theorem spec_l14Long.bits9 : waitsOk spec_l14Long.T9.2 spec_l14Long.B9 = true := by kernel_rfl
def spec_l14Long.T13 : Bool × List (List Nat × List Nat) := (true, [([], []), ([0], [0]), ([1], [1]), ([], []), ([], []), ([4], [4]), ([2, 3, 5], [2, 3, 5]), ([], []), ([7], [7]), ([8], [8]), ([9, 8], [8, 9]), ([8, 10], [8, 10]), ([6, 8, 0, 1, 2, 3, 4, 5, 6], [6]), ([11, 12, 0, 1, 2, 3, 4, 5, 6, 7, 8, 9, 10, 11, 12], [11])])
def spec_l14Long.B13 : List Nat := [0, 1, 3, 0, 0, 16, 63, 0, 128, 384, 896, 1920, 511, 8191]
theorem spec_l14Long.tab13 : rtab .any (opsOf Tryd.f30 13) = spec_l14Long.T13 := by kernel_rfl
theorem spec_l14Long.bits13 : waitsOk spec_l14Long.T13.2 spec_l14Long.B13 = true := by kernel_rfl
def spec_l14Long.T19 : Bool × List (List Nat × List Nat) := (true, [([], []), ([0], [0]), ([1], [1]), ([], []), ([], []), ([], []), ([5], [5]), ([6], [6]), ([7], [7]), ([4, 8], [4, 8]), ([2, 3, 9], [2, 3, 9]), ([10, 9, 0, 1, 2, 3, 4, 5, 6, 7, 8, 9, 10], [10]), ([11, 0, 1, 2, 3, 4, 5, 6, 7, 8, 9, 10, 11], [])])
def spec_l14Long.B19 : List Nat := [0, 1, 3, 0, 0, 0, 32, 96, 224, 496, 1023, 2047, 4095]
theorem spec_l14Long.tab19 : rtab .any (opsOf Tryd.f30 19) = spec_l14Long.T19 := by kernel_rfl
theorem spec_l14Long.bits19 : waitsOk spec_l14Long.T19.2 spec_l14Long.B19 = true := by kernel_rfl
set_option maxHeartbeats 8000000 in
set_option maxRecDepth 100000 in
theorem spec_l14Long.calls (k : Nat) (A0 : Option Addr) (c0 : Nat) (l0 : List ByteArray) (r1 : Int) (r2 : ByteArray) (r3 : ByteArray) (r4 : Int) (r5 : Int) (r6 : Int) (r7 : ByteArray) (r8 : Bool) (w : World) (hr0 : Kd.C Kd.string w A0 l0.length l0) (hc0 : l0.length ≤ c0) (h : spec_l14Long.f k l0 = some (r1, r2, r3, r4, r5, r6, r7, r8)) :
  Calls Tryd.prog 30 #[.slice A0 l0.length c0] w fun e w' => e = .returned (.tuple #[.agg #[.int .i64 r1, .string r2, .string r3, .int .i64 r4, .int .i64 r5, .int .i64 r6, .string r7], .bool r8]) ∧ Below w.heap.size w w' := by
 have hu24 := Tryd.underlying24
 have hu77 := Tryd.underlying77
 have HR0 := Aside0.mk hr0
 have HC0 := Aside0.mk hc0
 clear hr0 hc0
 have HB := Aside0.mk (Below.refl w.heap.size w)
 have H : (if 0 < (l0.length : Int) then (if (rdOf ByteArray.empty l0 0).toList = ([114, 101, 110, 97, 109, 101] : List UInt8) then (spec_l14Long.j0 k l0 ((l0.length : Int) == 3)) else (spec_l14Long.j0 k l0 false)) else (none)) = some (r1, r2, r3, r4, r5, r6, r7, r8) := h
 clear h
 have HC2 := Aside0.mk H
 clear H
 go_enter Tryd.func30, Tryd.ntmps30
 go_upto_region 1 with (first | ((with_reducible refine gate_dst (N := 2) rfl ?_); (try (refine gate_guard (by rfl) ?_; dsimp only)); refine Rgn.bx 2 #[.int .i64 0, .string (⟨#[]⟩ : ByteArray), .string (⟨#[]⟩ : ByteArray), .int .i64 0, .int .i64 0, .int .i64 0, .string (⟨#[]⟩ : ByteArray)] 24 ?_; intro gb154 hg w3 hbox hb; have BK154 := Aside0.mk (hbox); have GW154 := Aside0.mk (Rgn.ge hg HB.out); have GE154 := Aside0.mk (Rgn.ge hg HB.out); replace HB := Aside0.mk (below_step (Rgn.bq HB.out) hb); clear hb hbox hg))
 (try simp only [Act.put, List.setIfInBounds_toArray, List.set_cons_zero, List.set_cons_succ])
 go_cut [18] from 18 to 18 (fun v18 wc => ∃ (kq : Nat) (x18_1 : Bool), v18 = .bool x18_1 ∧ Aside0 (spec_l14Long.j0 kq l0 x18_1 = some (r1, r2, r3, r4, r5, r6, r7, r8)) ∧ Aside0 (kq ≤ k) ∧ Aside0 (wc.heap[gb154]? = some (.cells #[.int .i64 0, .string (⟨#[]⟩ : ByteArray), .string (⟨#[]⟩ : ByteArray), .int .i64 0, .int .i64 0, .int .i64 0, .string (⟨#[]⟩ : ByteArray)] 24 (0, 0))) ∧ Aside0 (Below w.heap.size w wc))
 case first =>
  have H := HC2.out
  clear HC2
  by_cases c4 : 0 < (l0.length : Int)
  ·
   rw [if_pos c4] at H
   have c4b0 : decide (0 < (l0.length : Int)) = true := decide_eq_true c4
   have c4b1 : decide (0 < l0.length) = true := decide_eq_true (by omega)
   clear c4
   (first | rw [c4b0] | (simp only [i64_w, i32_w]; rw [c4b0]) | skip)
   by_cases c5 : (rdOf ByteArray.empty l0 0).toList = ([114, 101, 110, 97, 109, 101] : List UInt8)
   ·
    rw [if_pos c5] at H
    have c5b0 : ((rdOf ByteArray.empty l0 0).toList == ([114, 101, 110, 97, 109, 101] : List UInt8)) = true := beq_iff_eq.mpr c5
    have c5b1 : ((rdOf ByteArray.empty l0 0).toList != ([114, 101, 110, 97, 109, 101] : List UInt8)) = false := bne_eq_false_iff_eq.mpr c5
    clear c5
    have H' := Aside0.mk H
    clear H
    have p155 : 0 ≤ (0 : Int) := (by omega)
    have q155 : 0 < (l0.length : Int) := of_decide_eq_true (by first | (with_reducible assumption) | assumption)
    obtain ⟨ad155, e155, hx155_0⟩ := Kd.at_string HR0.out 0 p155 q155
    cases e155
    have qi155 : (0 < l0.length) = True := eq_true (by omega)
    (try rw [show ((0 : Int)).toNat = 0 from rfl] at hx155_0)
    (try rw [Addr.add_zero'] at hx155_0)
    replace hx155_0 := Rgn.hx HB.out hx155_0
    replace p155 := eq_true p155
    replace q155 := eq_true q155
    go_wp2
    go_meet
    case rel => exact ⟨_, (((l0.length : Int) == 3)), (by first | rfl | (simp; done) | (simp [*]; done)), H', ⟨by first | omega | exact Nat.le_refl _⟩, ⟨Rgn.kb BK154.out⟩, ⟨Rgn.bq HB.out⟩⟩
   ·
    rw [if_neg c5] at H
    have c5b0 : ((rdOf ByteArray.empty l0 0).toList == ([114, 101, 110, 97, 109, 101] : List UInt8)) = false := beq_eq_false_iff_ne.mpr c5
    have c5b1 : ((rdOf ByteArray.empty l0 0).toList != ([114, 101, 110, 97, 109, 101] : List UInt8)) = true := bne_iff_ne.mpr c5
    have H' := Aside0.mk H
    clear H
    have p155 : 0 ≤ (0 : Int) := (by omega)
    have q155 : 0 < (l0.length : Int) := of_decide_eq_true (by first | (with_reducible assumption) | assumption)
    obtain ⟨ad155, e155, hx155_0⟩ := Kd.at_string HR0.out 0 p155 q155
    cases e155
    have qi155 : (0 < l0.length) = True := eq_true (by omega)
    (try rw [show ((0 : Int)).toNat = 0 from rfl] at hx155_0)
    (try rw [Addr.add_zero'] at hx155_0)
    replace hx155_0 := Rgn.hx HB.out hx155_0
    replace p155 := eq_true p155
    replace q155 := eq_true q155
    go_wp2
    go_meet
    case rel => exact ⟨_, (false), (by first | rfl | (simp; done) | (simp [*]; done)), H', ⟨by first | omega | exact Nat.le_refl _⟩, ⟨Rgn.kb BK154.out⟩, ⟨Rgn.bq HB.out⟩⟩
  ·
   rw [if_neg c4] at H
   exact absurd H (by simp)
 case rest =>
  clear HC2
  obtain ⟨kq, x18_1, rfl, HA, HJ1, BK154, HB⟩ := hcut
  cases kq with
  | zero => exact absurd HA.out (by simp [spec_l14Long.j0])
  | succ kj1 =>
   have H := HA.out
   clear HA
   simp only [spec_l14Long.j0] at H
   by_cases c6 : x18_1 = true
   ·
    subst c6
    replace H := Rgn.ip H
    by_cases c7 : 1 < (l0.length : Int)
    ·
     rw [if_pos c7] at H
     have c7b0 : decide (1 < (l0.length : Int)) = true := decide_eq_true c7
     have c7b1 : decide (1 < l0.length) = true := decide_eq_true (by omega)
     clear c7
     by_cases c8 : 2 < (l0.length : Int)
     ·
      rw [if_pos c8] at H
      have c8b0 : decide (2 < (l0.length : Int)) = true := decide_eq_true c8
      have c8b1 : decide (2 < l0.length) = true := decide_eq_true (by omega)
      clear c8
      simp only [Option.some.injEq, Prod.mk.injEq] at H
      obtain ⟨rfl, rfl, rfl, rfl, rfl, rfl, rfl, rfl⟩ := H
      try go_wp2
      replace BK154 := Aside0.mk (blk_drew BK154.out)
      replace HB := Aside0.mk (below_drew1 HB.out)
      have p156 : 0 ≤ (1 : Int) := (by omega)
      have q156 : 1 < (l0.length : Int) := of_decide_eq_true (by first | (with_reducible assumption) | assumption)
      obtain ⟨ad156, e156, hx156_0⟩ := Kd.at_string HR0.out 1 p156 q156
      have hw156_0 := hx156_0
      (try rw [show ((1 : Int)).toNat = 1 from rfl] at hw156_0)
      (try rw [show 1 * 1 = 1 from rfl] at hw156_0)
      (try simp only [Nat.reduceMul, Nat.reduceEqDiff, Go.Addr.add, ↓reduceIte] at hw156_0)
      cases e156
      (try simp only [show (1 : Int).toNat = 1 from rfl, Nat.reduceMul, Nat.reduceEqDiff, Go.Addr.add, ↓reduceIte] at hx156_0)
      have qi156 : (1 < l0.length) = True := eq_true (by omega)
      (try rw [show ((1 : Int)).toNat = 1 from rfl] at hx156_0)
      replace hx156_0 := Rgn.hx HB.out hx156_0
      replace p156 := eq_true p156
      replace q156 := eq_true q156
      have p157 : 0 ≤ (2 : Int) := (by omega)
      have q157 : 2 < (l0.length : Int) := of_decide_eq_true (by first | (with_reducible assumption) | assumption)
      obtain ⟨ad157, e157, hx157_0⟩ := Kd.at_string HR0.out 2 p157 q157
      have hw157_0 := hx157_0
      (try rw [show ((2 : Int)).toNat = 2 from rfl] at hw157_0)
      (try rw [show 2 * 1 = 2 from rfl] at hw157_0)
      (try simp only [Nat.reduceMul, Nat.reduceEqDiff, Go.Addr.add, ↓reduceIte] at hw157_0)
      obtain rfl : ad156 = ad157 := (by injection e157)
      (try simp only [show (2 : Int).toNat = 2 from rfl, Nat.reduceMul, Nat.reduceEqDiff, Go.Addr.add, ↓reduceIte] at hx157_0)
      have qi157 : (2 < l0.length) = True := eq_true (by omega)
      (try rw [show ((2 : Int)).toNat = 2 from rfl] at hx157_0)
      replace hx157_0 := Rgn.hx HB.out hx157_0
      replace p157 := eq_true p157
      replace q157 := eq_true q157
      refine start_ (n := 9) (S := fun w' => w'.cell? ⟨ad156.block, ad156.off + 1, none⟩ = some (.string (rdOf ByteArray.empty l0 1)) ∧ w'.cell? ⟨ad156.block, ad156.off + 2, none⟩ = some (.string (rdOf ByteArray.empty l0 2))) (ds := []) #[false, false, false, false, false, false, false, false, false] (by kernel_rfl) rfl rfl ⟨((HB.out.cell (World.block_lt_of_cell? w _ hw156_0)).trans hw156_0), ((HB.out.cell (World.block_lt_of_cell? w _ hw157_0)).trans hw157_0)⟩ (fun hHeld => ?_); refine with_tabW spec_l14Long.tab2 spec_l14Long.bits2 (fun HT_ HW_ => ?_)
      generalize wc.drew = w9 at BK154 HB hx156_0 hx157_0 hHeld ⊢
      refine Rgn.pu HT_.out 0 28 ?_
      refine Rgn.pu HT_.out 1 29 ?_
      refine Rgn.pu HT_.out 3 31 ?_
      refine Rgn.pu HT_.out 4 32 ?_
      refine Rgn.tk HT_.out HW_.out 2 30 hHeld ?_
      refine Rgn.tk HT_.out HW_.out 5 33 hHeld ?_
      refine Rgn.pu HT_.out 6 34 ?_
      refine one_ (i := 7) (N := none) #[true, true, true, true, true, true, true, true, false] rfl rfl (one_of HT_.out (by kernel_rfl)) (by decide) (fun K hK => ?_)
      obtain ⟨hs10, hs11, hs12, hs13, hs14, hs15, hs16, hfs10, hfs11, hfs12, hfs13, hfs14, hfs15, hfs16⟩ := Rgn.cf7 BK154.out
      refine skip_ (w1 := ?_) (by rfl) rfl ?_ ?_
      rotate_left
      ·
       go_simp
       rfl
      refine hK.out _ _ ⟨(Rgn.far7 (Rgn.nb hw156_0 GW154.out) hHeld.1), (Rgn.far7 (Rgn.nb hw157_0 GW154.out) hHeld.2)⟩ (fun hHeld => ?_)
      clear hK K
      refine Rgn.pu HT_.out 8 3 ?_
      refine done_ (done_of HT_.out (by kernel_rfl)) ?_
      try go_wp2
      refine bodyPost_ret (results_ct rfl _ _ gb154 24 _ (0, 0) _ rfl (by exact Rgn.put7 (Rgn.kf BK154.out)) Tryd.underlying24 rfl (by kernel_rfl)) rfl ?_
      exact ⟨by first | rfl | (simp [errW_none, errW_some] <;> rfl) | (simp [*, errW_none, errW_some] <;> rfl), Rgn.bq HB.out⟩
     ·
      rw [if_neg c8] at H
      exact absurd H (by simp)
    ·
     rw [if_neg c7] at H
     exact absurd H (by simp)
   ·
    replace c6 := Bool.eq_false_iff.mpr c6
    subst c6
    replace H := Rgn.im H
    have HC17 := Aside0.mk H
    clear H
    go_upto_region 3 with (fail)
    go_cut [35] from 35 to 35 (fun v35 wc => ∃ (kq : Nat) (x35_16 : Bool), v35 = .bool x35_16 ∧ Aside0 (spec_l14Long.j1 kq l0 x35_16 = some (r1, r2, r3, r4, r5, r6, r7, r8)) ∧ Aside0 (kq ≤ kj1) ∧ Aside0 (wc.heap[gb154]? = some (.cells #[.int .i64 0, .string (⟨#[]⟩ : ByteArray), .string (⟨#[]⟩ : ByteArray), .int .i64 0, .int .i64 0, .int .i64 0, .string (⟨#[]⟩ : ByteArray)] 24 (0, 0))) ∧ Aside0 (Below w.heap.size w wc))
    case first =>
     have H := HC17.out
     clear HC17
     by_cases c18 : 0 < (l0.length : Int)
     ·
      rw [if_pos c18] at H
      have c18b0 : decide (0 < (l0.length : Int)) = true := decide_eq_true c18
      have c18b1 : decide (0 < l0.length) = true := decide_eq_true (by omega)
      clear c18
      (first | rw [c18b0] | (simp only [i64_w, i32_w]; rw [c18b0]) | skip)
      by_cases c19 : (rdOf ByteArray.empty l0 0).toList = ([108, 105, 110, 107] : List UInt8)
      ·
       rw [if_pos c19] at H
       have c19b0 : ((rdOf ByteArray.empty l0 0).toList == ([108, 105, 110, 107] : List UInt8)) = true := beq_iff_eq.mpr c19
       have c19b1 : ((rdOf ByteArray.empty l0 0).toList != ([108, 105, 110, 107] : List UInt8)) = false := bne_eq_false_iff_eq.mpr c19
       clear c19
       have H' := Aside0.mk H
       clear H
       have p158 : 0 ≤ (0 : Int) := (by omega)
       have q158 : 0 < (l0.length : Int) := of_decide_eq_true (by first | (with_reducible assumption) | assumption)
       obtain ⟨ad158, e158, hx158_0⟩ := Kd.at_string HR0.out 0 p158 q158
       cases e158
       have qi158 : (0 < l0.length) = True := eq_true (by omega)
       (try rw [show ((0 : Int)).toNat = 0 from rfl] at hx158_0)
       (try rw [Addr.add_zero'] at hx158_0)
       replace hx158_0 := Rgn.hx HB.out hx158_0
       replace p158 := eq_true p158
       replace q158 := eq_true q158
       go_wp2
       go_meet
       case rel => exact ⟨_, (((l0.length : Int) == 3)), (by first | rfl | (simp; done) | (simp [*]; done)), H', ⟨by have := HJ1.out; first | omega | exact Nat.le_refl _⟩, ⟨Rgn.kb BK154.out⟩, ⟨Rgn.bq HB.out⟩⟩
      ·
       rw [if_neg c19] at H
       have c19b0 : ((rdOf ByteArray.empty l0 0).toList == ([108, 105, 110, 107] : List UInt8)) = false := beq_eq_false_iff_ne.mpr c19
       have c19b1 : ((rdOf ByteArray.empty l0 0).toList != ([108, 105, 110, 107] : List UInt8)) = true := bne_iff_ne.mpr c19
       have H' := Aside0.mk H
       clear H
       have p158 : 0 ≤ (0 : Int) := (by omega)
       have q158 : 0 < (l0.length : Int) := of_decide_eq_true (by first | (with_reducible assumption) | assumption)
       obtain ⟨ad158, e158, hx158_0⟩ := Kd.at_string HR0.out 0 p158 q158
       cases e158
       have qi158 : (0 < l0.length) = True := eq_true (by omega)
       (try rw [show ((0 : Int)).toNat = 0 from rfl] at hx158_0)
       (try rw [Addr.add_zero'] at hx158_0)
       replace hx158_0 := Rgn.hx HB.out hx158_0
       replace p158 := eq_true p158
       replace q158 := eq_true q158
       go_wp2
       go_meet
       case rel => exact ⟨_, (false), (by first | rfl | (simp; done) | (simp [*]; done)), H', ⟨by have := HJ1.out; first | omega | exact Nat.le_refl _⟩, ⟨Rgn.kb BK154.out⟩, ⟨Rgn.bq HB.out⟩⟩
     ·
      rw [if_neg c18] at H
      exact absurd H (by simp)
    case rest =>
     clear HC17
     try clear c6
     obtain ⟨kq, x35_16, rfl, HA, HJ16, BK154, HB⟩ := hcut
     cases kq with
     | zero => exact absurd HA.out (by simp [spec_l14Long.j1])
     | succ kj16 =>
      have H := HA.out
      clear HA
      simp only [spec_l14Long.j1] at H
      by_cases c20 : x35_16 = true
      ·
       subst c20
       replace H := Rgn.ip H
       by_cases c21 : 1 < (l0.length : Int)
       ·
        rw [if_pos c21] at H
        have c21b0 : decide (1 < (l0.length : Int)) = true := decide_eq_true c21
        have c21b1 : decide (1 < l0.length) = true := decide_eq_true (by omega)
        clear c21
        by_cases c22 : 2 < (l0.length : Int)
        ·
         rw [if_pos c22] at H
         have c22b0 : decide (2 < (l0.length : Int)) = true := decide_eq_true c22
         have c22b1 : decide (2 < l0.length) = true := decide_eq_true (by omega)
         clear c22
         simp only [Option.some.injEq, Prod.mk.injEq] at H
         obtain ⟨rfl, rfl, rfl, rfl, rfl, rfl, rfl, rfl⟩ := H
         try go_wp2
         replace BK154 := Aside0.mk (blk_drew BK154.out)
         replace HB := Aside0.mk (below_drew1 HB.out)
         have p159 : 0 ≤ (1 : Int) := (by omega)
         have q159 : 1 < (l0.length : Int) := of_decide_eq_true (by first | (with_reducible assumption) | assumption)
         obtain ⟨ad159, e159, hx159_0⟩ := Kd.at_string HR0.out 1 p159 q159
         have hw159_0 := hx159_0
         (try rw [show ((1 : Int)).toNat = 1 from rfl] at hw159_0)
         (try rw [show 1 * 1 = 1 from rfl] at hw159_0)
         (try simp only [Nat.reduceMul, Nat.reduceEqDiff, Go.Addr.add, ↓reduceIte] at hw159_0)
         cases e159
         (try simp only [show (1 : Int).toNat = 1 from rfl, Nat.reduceMul, Nat.reduceEqDiff, Go.Addr.add, ↓reduceIte] at hx159_0)
         have qi159 : (1 < l0.length) = True := eq_true (by omega)
         (try rw [show ((1 : Int)).toNat = 1 from rfl] at hx159_0)
         replace hx159_0 := Rgn.hx HB.out hx159_0
         replace p159 := eq_true p159
         replace q159 := eq_true q159
         have p160 : 0 ≤ (2 : Int) := (by omega)
         have q160 : 2 < (l0.length : Int) := of_decide_eq_true (by first | (with_reducible assumption) | assumption)
         obtain ⟨ad160, e160, hx160_0⟩ := Kd.at_string HR0.out 2 p160 q160
         have hw160_0 := hx160_0
         (try rw [show ((2 : Int)).toNat = 2 from rfl] at hw160_0)
         (try rw [show 2 * 1 = 2 from rfl] at hw160_0)
         (try simp only [Nat.reduceMul, Nat.reduceEqDiff, Go.Addr.add, ↓reduceIte] at hw160_0)
         obtain rfl : ad159 = ad160 := (by injection e160)
         (try simp only [show (2 : Int).toNat = 2 from rfl, Nat.reduceMul, Nat.reduceEqDiff, Go.Addr.add, ↓reduceIte] at hx160_0)
         have qi160 : (2 < l0.length) = True := eq_true (by omega)
         (try rw [show ((2 : Int)).toNat = 2 from rfl] at hx160_0)
         replace hx160_0 := Rgn.hx HB.out hx160_0
         replace p160 := eq_true p160
         replace q160 := eq_true q160
         refine start_ (n := 9) (S := fun w' => w'.cell? ⟨ad159.block, ad159.off + 1, none⟩ = some (.string (rdOf ByteArray.empty l0 1)) ∧ w'.cell? ⟨ad159.block, ad159.off + 2, none⟩ = some (.string (rdOf ByteArray.empty l0 2))) (ds := []) #[false, false, false, false, false, false, false, false, false] (by kernel_rfl) rfl rfl ⟨((HB.out.cell (World.block_lt_of_cell? w _ hw159_0)).trans hw159_0), ((HB.out.cell (World.block_lt_of_cell? w _ hw160_0)).trans hw160_0)⟩ (fun hHeld => ?_); refine with_tabW spec_l14Long.tab4 spec_l14Long.bits4 (fun HT_ HW_ => ?_)
         generalize wc.drew = w23 at BK154 HB hx159_0 hx160_0 hHeld ⊢
         refine Rgn.pu HT_.out 0 45 ?_
         refine Rgn.pu HT_.out 1 46 ?_
         refine Rgn.pu HT_.out 3 48 ?_
         refine Rgn.pu HT_.out 4 49 ?_
         refine Rgn.tk HT_.out HW_.out 2 47 hHeld ?_
         refine Rgn.tk HT_.out HW_.out 5 50 hHeld ?_
         refine Rgn.pu HT_.out 6 51 ?_
         refine one_ (i := 7) (N := none) #[true, true, true, true, true, true, true, true, false] rfl rfl (one_of HT_.out (by kernel_rfl)) (by decide) (fun K hK => ?_)
         obtain ⟨hs24, hs25, hs26, hs27, hs28, hs29, hs30, hfs24, hfs25, hfs26, hfs27, hfs28, hfs29, hfs30⟩ := Rgn.cf7 BK154.out
         refine skip_ (w1 := ?_) (by rfl) rfl ?_ ?_
         rotate_left
         ·
          go_simp
          rfl
         refine hK.out _ _ ⟨(Rgn.far7 (Rgn.nb hw159_0 GW154.out) hHeld.1), (Rgn.far7 (Rgn.nb hw160_0 GW154.out) hHeld.2)⟩ (fun hHeld => ?_)
         clear hK K
         refine Rgn.pu HT_.out 8 3 ?_
         refine done_ (done_of HT_.out (by kernel_rfl)) ?_
         try go_wp2
         refine bodyPost_ret (results_ct rfl _ _ gb154 24 _ (0, 0) _ rfl (by exact Rgn.put7 (Rgn.kf BK154.out)) Tryd.underlying24 rfl (by kernel_rfl)) rfl ?_
         exact ⟨by first | rfl | (simp [errW_none, errW_some] <;> rfl) | (simp [*, errW_none, errW_some] <;> rfl), Rgn.bq HB.out⟩
        ·
         rw [if_neg c22] at H
         exact absurd H (by simp)
       ·
        rw [if_neg c21] at H
        exact absurd H (by simp)
      ·
       replace c20 := Bool.eq_false_iff.mpr c20
       subst c20
       replace H := Rgn.im H
       have HC31 := Aside0.mk H
       clear H
       go_upto_region 5 with (fail)
       go_cut [52] from 52 to 52 (fun v52 wc => ∃ (kq : Nat) (x52_30 : Bool), v52 = .bool x52_30 ∧ Aside0 (spec_l14Long.j2 kq l0 x52_30 = some (r1, r2, r3, r4, r5, r6, r7, r8)) ∧ Aside0 (kq ≤ kj16) ∧ Aside0 (wc.heap[gb154]? = some (.cells #[.int .i64 0, .string (⟨#[]⟩ : ByteArray), .string (⟨#[]⟩ : ByteArray), .int .i64 0, .int .i64 0, .int .i64 0, .string (⟨#[]⟩ : ByteArray)] 24 (0, 0))) ∧ Aside0 (Below w.heap.size w wc))
       case first =>
        have H := HC31.out
        clear HC31
        by_cases c32 : 0 < (l0.length : Int)
        ·
         rw [if_pos c32] at H
         have c32b0 : decide (0 < (l0.length : Int)) = true := decide_eq_true c32
         have c32b1 : decide (0 < l0.length) = true := decide_eq_true (by omega)
         clear c32
         (first | rw [c32b0] | (simp only [i64_w, i32_w]; rw [c32b0]) | skip)
         by_cases c33 : (rdOf ByteArray.empty l0 0).toList = ([115, 121, 109, 108, 105, 110, 107] : List UInt8)
         ·
          rw [if_pos c33] at H
          have c33b0 : ((rdOf ByteArray.empty l0 0).toList == ([115, 121, 109, 108, 105, 110, 107] : List UInt8)) = true := beq_iff_eq.mpr c33
          have c33b1 : ((rdOf ByteArray.empty l0 0).toList != ([115, 121, 109, 108, 105, 110, 107] : List UInt8)) = false := bne_eq_false_iff_eq.mpr c33
          clear c33
          have H' := Aside0.mk H
          clear H
          have p161 : 0 ≤ (0 : Int) := (by omega)
          have q161 : 0 < (l0.length : Int) := of_decide_eq_true (by first | (with_reducible assumption) | assumption)
          obtain ⟨ad161, e161, hx161_0⟩ := Kd.at_string HR0.out 0 p161 q161
          cases e161
          have qi161 : (0 < l0.length) = True := eq_true (by omega)
          (try rw [show ((0 : Int)).toNat = 0 from rfl] at hx161_0)
          (try rw [Addr.add_zero'] at hx161_0)
          replace hx161_0 := Rgn.hx HB.out hx161_0
          replace p161 := eq_true p161
          replace q161 := eq_true q161
          go_wp2
          go_meet
          case rel => exact ⟨_, (((l0.length : Int) == 3)), (by first | rfl | (simp; done) | (simp [*]; done)), H', ⟨by have := HJ1.out; have := HJ16.out; first | omega | exact Nat.le_refl _⟩, ⟨Rgn.kb BK154.out⟩, ⟨Rgn.bq HB.out⟩⟩
         ·
          rw [if_neg c33] at H
          have c33b0 : ((rdOf ByteArray.empty l0 0).toList == ([115, 121, 109, 108, 105, 110, 107] : List UInt8)) = false := beq_eq_false_iff_ne.mpr c33
          have c33b1 : ((rdOf ByteArray.empty l0 0).toList != ([115, 121, 109, 108, 105, 110, 107] : List UInt8)) = true := bne_iff_ne.mpr c33
          have H' := Aside0.mk H
          clear H
          have p161 : 0 ≤ (0 : Int) := (by omega)
          have q161 : 0 < (l0.length : Int) := of_decide_eq_true (by first | (with_reducible assumption) | assumption)
          obtain ⟨ad161, e161, hx161_0⟩ := Kd.at_string HR0.out 0 p161 q161
          cases e161
          have qi161 : (0 < l0.length) = True := eq_true (by omega)
          (try rw [show ((0 : Int)).toNat = 0 from rfl] at hx161_0)
          (try rw [Addr.add_zero'] at hx161_0)
          replace hx161_0 := Rgn.hx HB.out hx161_0
          replace p161 := eq_true p161
          replace q161 := eq_true q161
          go_wp2
          go_meet
          case rel => exact ⟨_, (false), (by first | rfl | (simp; done) | (simp [*]; done)), H', ⟨by have := HJ1.out; have := HJ16.out; first | omega | exact Nat.le_refl _⟩, ⟨Rgn.kb BK154.out⟩, ⟨Rgn.bq HB.out⟩⟩
        ·
         rw [if_neg c32] at H
         exact absurd H (by simp)
       case rest =>
        clear HC31
        try clear c6
        try clear c20
        obtain ⟨kq, x52_30, rfl, HA, HJ30, BK154, HB⟩ := hcut
        cases kq with
        | zero => exact absurd HA.out (by simp [spec_l14Long.j2])
        | succ kj30 =>
         have H := HA.out
         clear HA
         simp only [spec_l14Long.j2] at H
         by_cases c34 : x52_30 = true
         ·
          subst c34
          replace H := Rgn.ip H
          by_cases c35 : 1 < (l0.length : Int)
          ·
           rw [if_pos c35] at H
           have c35b0 : decide (1 < (l0.length : Int)) = true := decide_eq_true c35
           have c35b1 : decide (1 < l0.length) = true := decide_eq_true (by omega)
           clear c35
           by_cases c36 : 2 < (l0.length : Int)
           ·
            rw [if_pos c36] at H
            have c36b0 : decide (2 < (l0.length : Int)) = true := decide_eq_true c36
            have c36b1 : decide (2 < l0.length) = true := decide_eq_true (by omega)
            clear c36
            simp only [Option.some.injEq, Prod.mk.injEq] at H
            obtain ⟨rfl, rfl, rfl, rfl, rfl, rfl, rfl, rfl⟩ := H
            try go_wp2
            replace BK154 := Aside0.mk (blk_drew BK154.out)
            replace HB := Aside0.mk (below_drew1 HB.out)
            have p162 : 0 ≤ (1 : Int) := (by omega)
            have q162 : 1 < (l0.length : Int) := of_decide_eq_true (by first | (with_reducible assumption) | assumption)
            obtain ⟨ad162, e162, hx162_0⟩ := Kd.at_string HR0.out 1 p162 q162
            have hw162_0 := hx162_0
            (try rw [show ((1 : Int)).toNat = 1 from rfl] at hw162_0)
            (try rw [show 1 * 1 = 1 from rfl] at hw162_0)
            (try simp only [Nat.reduceMul, Nat.reduceEqDiff, Go.Addr.add, ↓reduceIte] at hw162_0)
            cases e162
            (try simp only [show (1 : Int).toNat = 1 from rfl, Nat.reduceMul, Nat.reduceEqDiff, Go.Addr.add, ↓reduceIte] at hx162_0)
            have qi162 : (1 < l0.length) = True := eq_true (by omega)
            (try rw [show ((1 : Int)).toNat = 1 from rfl] at hx162_0)
            replace hx162_0 := Rgn.hx HB.out hx162_0
            replace p162 := eq_true p162
            replace q162 := eq_true q162
            have p163 : 0 ≤ (2 : Int) := (by omega)
            have q163 : 2 < (l0.length : Int) := of_decide_eq_true (by first | (with_reducible assumption) | assumption)
            obtain ⟨ad163, e163, hx163_0⟩ := Kd.at_string HR0.out 2 p163 q163
            have hw163_0 := hx163_0
            (try rw [show ((2 : Int)).toNat = 2 from rfl] at hw163_0)
            (try rw [show 2 * 1 = 2 from rfl] at hw163_0)
            (try simp only [Nat.reduceMul, Nat.reduceEqDiff, Go.Addr.add, ↓reduceIte] at hw163_0)
            obtain rfl : ad162 = ad163 := (by injection e163)
            (try simp only [show (2 : Int).toNat = 2 from rfl, Nat.reduceMul, Nat.reduceEqDiff, Go.Addr.add, ↓reduceIte] at hx163_0)
            have qi163 : (2 < l0.length) = True := eq_true (by omega)
            (try rw [show ((2 : Int)).toNat = 2 from rfl] at hx163_0)
            replace hx163_0 := Rgn.hx HB.out hx163_0
            replace p163 := eq_true p163
            replace q163 := eq_true q163
            refine start_ (n := 9) (S := fun w' => w'.cell? ⟨ad162.block, ad162.off + 1, none⟩ = some (.string (rdOf ByteArray.empty l0 1)) ∧ w'.cell? ⟨ad162.block, ad162.off + 2, none⟩ = some (.string (rdOf ByteArray.empty l0 2))) (ds := []) #[false, false, false, false, false, false, false, false, false] (by kernel_rfl) rfl rfl ⟨((HB.out.cell (World.block_lt_of_cell? w _ hw162_0)).trans hw162_0), ((HB.out.cell (World.block_lt_of_cell? w _ hw163_0)).trans hw163_0)⟩ (fun hHeld => ?_); refine with_tabW spec_l14Long.tab6 spec_l14Long.bits6 (fun HT_ HW_ => ?_)
            generalize wc.drew = w37 at BK154 HB hx162_0 hx163_0 hHeld ⊢
            refine Rgn.pu HT_.out 0 62 ?_
            refine Rgn.pu HT_.out 1 63 ?_
            refine Rgn.pu HT_.out 3 65 ?_
            refine Rgn.pu HT_.out 4 66 ?_
            refine Rgn.tk HT_.out HW_.out 2 64 hHeld ?_
            refine Rgn.tk HT_.out HW_.out 5 67 hHeld ?_
            refine Rgn.pu HT_.out 6 68 ?_
            refine one_ (i := 7) (N := none) #[true, true, true, true, true, true, true, true, false] rfl rfl (one_of HT_.out (by kernel_rfl)) (by decide) (fun K hK => ?_)
            obtain ⟨hs38, hs39, hs40, hs41, hs42, hs43, hs44, hfs38, hfs39, hfs40, hfs41, hfs42, hfs43, hfs44⟩ := Rgn.cf7 BK154.out
            refine skip_ (w1 := ?_) (by rfl) rfl ?_ ?_
            rotate_left
            ·
             go_simp
             rfl
            refine hK.out _ _ ⟨(Rgn.far7 (Rgn.nb hw162_0 GW154.out) hHeld.1), (Rgn.far7 (Rgn.nb hw163_0 GW154.out) hHeld.2)⟩ (fun hHeld => ?_)
            clear hK K
            refine Rgn.pu HT_.out 8 3 ?_
            refine done_ (done_of HT_.out (by kernel_rfl)) ?_
            try go_wp2
            refine bodyPost_ret (results_ct rfl _ _ gb154 24 _ (0, 0) _ rfl (by exact Rgn.put7 (Rgn.kf BK154.out)) Tryd.underlying24 rfl (by kernel_rfl)) rfl ?_
            exact ⟨by first | rfl | (simp [errW_none, errW_some] <;> rfl) | (simp [*, errW_none, errW_some] <;> rfl), Rgn.bq HB.out⟩
           ·
            rw [if_neg c36] at H
            exact absurd H (by simp)
          ·
           rw [if_neg c35] at H
           exact absurd H (by simp)
         ·
          replace c34 := Bool.eq_false_iff.mpr c34
          subst c34
          replace H := Rgn.im H
          have HC45 := Aside0.mk H
          clear H
          go_upto_region 7 with (fail)
          go_cut [69] from 69 to 69 (fun v69 wc => ∃ (kq : Nat) (x69_44 : Bool), v69 = .bool x69_44 ∧ Aside0 (spec_l14Long.j3 kq l0 x69_44 = some (r1, r2, r3, r4, r5, r6, r7, r8)) ∧ Aside0 (kq ≤ kj30) ∧ Aside0 (wc.heap[gb154]? = some (.cells #[.int .i64 0, .string (⟨#[]⟩ : ByteArray), .string (⟨#[]⟩ : ByteArray), .int .i64 0, .int .i64 0, .int .i64 0, .string (⟨#[]⟩ : ByteArray)] 24 (0, 0))) ∧ Aside0 (Below w.heap.size w wc))
          case first =>
           have H := HC45.out
           clear HC45
           by_cases c46 : 0 < (l0.length : Int)
           ·
            rw [if_pos c46] at H
            have c46b0 : decide (0 < (l0.length : Int)) = true := decide_eq_true c46
            have c46b1 : decide (0 < l0.length) = true := decide_eq_true (by omega)
            clear c46
            (first | rw [c46b0] | (simp only [i64_w, i32_w]; rw [c46b0]) | skip)
            by_cases c47 : (rdOf ByteArray.empty l0 0).toList = ([97, 112, 112, 101, 110, 100] : List UInt8)
            ·
             rw [if_pos c47] at H
             have c47b0 : ((rdOf ByteArray.empty l0 0).toList == ([97, 112, 112, 101, 110, 100] : List UInt8)) = true := beq_iff_eq.mpr c47
             have c47b1 : ((rdOf ByteArray.empty l0 0).toList != ([97, 112, 112, 101, 110, 100] : List UInt8)) = false := bne_eq_false_iff_eq.mpr c47
             clear c47
             have H' := Aside0.mk H
             clear H
             have p164 : 0 ≤ (0 : Int) := (by omega)
             have q164 : 0 < (l0.length : Int) := of_decide_eq_true (by first | (with_reducible assumption) | assumption)
             obtain ⟨ad164, e164, hx164_0⟩ := Kd.at_string HR0.out 0 p164 q164
             cases e164
             have qi164 : (0 < l0.length) = True := eq_true (by omega)
             (try rw [show ((0 : Int)).toNat = 0 from rfl] at hx164_0)
             (try rw [Addr.add_zero'] at hx164_0)
             replace hx164_0 := Rgn.hx HB.out hx164_0
             replace p164 := eq_true p164
             replace q164 := eq_true q164
             go_wp2
             go_meet
             case rel => exact ⟨_, (((l0.length : Int) == 3)), (by first | rfl | (simp; done) | (simp [*]; done)), H', ⟨by have := HJ1.out; have := HJ16.out; have := HJ30.out; first | omega | exact Nat.le_refl _⟩, ⟨Rgn.kb BK154.out⟩, ⟨Rgn.bq HB.out⟩⟩
            ·
             rw [if_neg c47] at H
             have c47b0 : ((rdOf ByteArray.empty l0 0).toList == ([97, 112, 112, 101, 110, 100] : List UInt8)) = false := beq_eq_false_iff_ne.mpr c47
             have c47b1 : ((rdOf ByteArray.empty l0 0).toList != ([97, 112, 112, 101, 110, 100] : List UInt8)) = true := bne_iff_ne.mpr c47
             have H' := Aside0.mk H
             clear H
             have p164 : 0 ≤ (0 : Int) := (by omega)
             have q164 : 0 < (l0.length : Int) := of_decide_eq_true (by first | (with_reducible assumption) | assumption)
             obtain ⟨ad164, e164, hx164_0⟩ := Kd.at_string HR0.out 0 p164 q164
             cases e164
             have qi164 : (0 < l0.length) = True := eq_true (by omega)
             (try rw [show ((0 : Int)).toNat = 0 from rfl] at hx164_0)
             (try rw [Addr.add_zero'] at hx164_0)
             replace hx164_0 := Rgn.hx HB.out hx164_0
             replace p164 := eq_true p164
             replace q164 := eq_true q164
             go_wp2
             go_meet
             case rel => exact ⟨_, (false), (by first | rfl | (simp; done) | (simp [*]; done)), H', ⟨by have := HJ1.out; have := HJ16.out; have := HJ30.out; first | omega | exact Nat.le_refl _⟩, ⟨Rgn.kb BK154.out⟩, ⟨Rgn.bq HB.out⟩⟩
           ·
            rw [if_neg c46] at H
            exact absurd H (by simp)
          case rest =>
           clear HC45
           try clear c6
           try clear c20
           try clear c34
           obtain ⟨kq, x69_44, rfl, HA, HJ44, BK154, HB⟩ := hcut
           cases kq with
           | zero => exact absurd HA.out (by simp [spec_l14Long.j3])
           | succ kj44 =>
            have H := HA.out
            clear HA
            simp only [spec_l14Long.j3] at H
            by_cases c48 : x69_44 = true
            ·
             subst c48
             replace H := Rgn.ip H
             by_cases c49 : 2 < (l0.length : Int)
             ·
              rw [if_pos c49] at H
              have c49b0 : decide (2 < (l0.length : Int)) = true := decide_eq_true c49
              have c49b1 : decide (2 < l0.length) = true := decide_eq_true (by omega)
              clear c49
              replace H := Option.bind_eq_some_iff.mp H
              obtain ⟨⟨t166, t167⟩, A500, H⟩ := H
              replace H : (if 1 < (l0.length : Int) then (some (8, rdOf ByteArray.empty l0 1, (⟨#[]⟩ : ByteArray), 0, 0, 0, t167, t166)) else (none)) = some (r1, r2, r3, r4, r5, r6, r7, r8) := H
              have A50 := Aside0.mk A500
              clear A500
              by_cases c51 : 1 < (l0.length : Int)
              ·
               rw [if_pos c51] at H
               have c51b0 : decide (1 < (l0.length : Int)) = true := decide_eq_true c51
               have c51b1 : decide (1 < l0.length) = true := decide_eq_true (by omega)
               clear c51
               simp only [Option.some.injEq, Prod.mk.injEq] at H
               obtain ⟨rfl, rfl, rfl, rfl, rfl, rfl, rfl, rfl⟩ := H
               have p165 : 0 ≤ (2 : Int) := (by omega)
               have q165 : 2 < (l0.length : Int) := of_decide_eq_true (by first | (with_reducible assumption) | assumption)
               obtain ⟨ad165, e165, hx165_0⟩ := Kd.at_string HR0.out 2 p165 q165
               cases e165
               (try simp only [show (2 : Int).toNat = 2 from rfl, Nat.reduceMul, Nat.reduceEqDiff, Go.Addr.add, ↓reduceIte] at hx165_0)
               have qi165 : (2 < l0.length) = True := eq_true (by omega)
               (try rw [show ((2 : Int)).toNat = 2 from rfl] at hx165_0)
               replace hx165_0 := Rgn.hx HB.out hx165_0
               replace p165 := eq_true p165
               replace q165 := eq_true q165
               try go_wp2_with (first | ((with_reducible refine gate_callee (f := 61) rfl ?_); refine Rgn.gl (some 82) Tryd.func61 #[.string (rdOf ByteArray.empty l0 2)] ?_; (with_reducible refine (spec_Unquote.calls kj44 (rdOf ByteArray.empty l0 2) t166 t167 _ A50.out).mono ?_); rintro e w52 ⟨rfl, hb⟩; refine ⟨_, rfl, ?_⟩; replace BK154 := Aside0.mk (Rgn.bb BK154.out hb); replace HB := Aside0.mk (below_step (Rgn.bq HB.out) hb); (try clear hb)) | ((with_reducible refine gate_dst (N := 4) rfl ?_); (try (refine gate_guard (by rfl) ?_; dsimp only)); refine Rgn.bx 4 #[.bool false, .string (⟨#[]⟩ : ByteArray)] 77 ?_; intro gb168 hg w53 hbox hb; have BK168 := Aside0.mk (hbox); have GW168 := Aside0.mk (Rgn.ge hg HB.out); have GE168 := Aside0.mk (Rgn.ge hg HB.out); replace HB := Aside0.mk (below_step (Rgn.bq HB.out) hb); have NB154_168 := Aside0.mk (Rgn.nl hg BK154.out); have NB168_154 := Aside0.mk (Rgn.ng hg BK154.out); replace BK154 := Aside0.mk (Rgn.bb BK154.out hb); clear hb hbox hg; have hnb54 := NB168_154.out; have hnc54 := NB154_168.out; obtain ⟨hcz55_0, hcz55_1, hfz55_0, hfz55_1⟩ := Rgn.c2 BK168.out))
               have n0_ : Aside0 (((w53.setCell ⟨gb168, 0, none⟩ (.bool t166)).setCell ⟨gb168, 1, none⟩ (.string t167)).heap[gb154]? = some (.cells #[.int .i64 0, .string (⟨#[]⟩ : ByteArray), .string (⟨#[]⟩ : ByteArray), .int .i64 0, .int .i64 0, .int .i64 0, .string (⟨#[]⟩ : ByteArray)] 24 (0, 0))) := ⟨Rgn.kf BK154.out⟩
               have n1_ : Aside0 (((w53.setCell ⟨gb168, 0, none⟩ (.bool t166)).setCell ⟨gb168, 1, none⟩ (.string t167)).heap[gb168]? = some (.cells #[.bool t166, .string t167] 77 (0, 0))) := ⟨by (with_reducible repeat (first | refine blk_drewN ?_ _ | refine blk_drew ?_ | refine blk_alloc ?_ _)); refine blk_put (cs := #[.bool t166, .string (⟨#[]⟩ : ByteArray)]) ?_ 1 _ rfl; (with_reducible repeat (first | refine blk_drewN ?_ _ | refine blk_drew ?_ | refine blk_alloc ?_ _)); refine blk_put (cs := #[.bool false, .string (⟨#[]⟩ : ByteArray)]) ?_ 0 _ rfl; (with_reducible repeat (first | refine blk_drewN ?_ _ | refine blk_drew ?_ | refine blk_alloc ?_ _)); exact BK168.out⟩
               have n2_ : Aside0 (Below w.heap.size w ((w53.setCell ⟨gb168, 0, none⟩ (.bool t166)).setCell ⟨gb168, 1, none⟩ (.string t167))) := ⟨Rgn.bq HB.out⟩
               (try clear BK154)
               (try clear BK168)
               (try clear HB)
               generalize ((w53.setCell ⟨gb168, 0, none⟩ (.bool t166)).setCell ⟨gb168, 1, none⟩ (.string t167)) = w56 at n0_ n1_ n2_ ⊢
               have BK154 := n0_
               have BK168 := n1_
               have HB := n2_
               clear n0_ n1_ n2_
               replace BK154 := Aside0.mk (blk_drew BK154.out)
               replace BK168 := Aside0.mk (blk_drew BK168.out)
               replace HB := Aside0.mk (below_drew1 HB.out)
               have p169 : 0 ≤ (1 : Int) := (by omega)
               have q169 : 1 < (l0.length : Int) := of_decide_eq_true (by first | (with_reducible assumption) | assumption)
               obtain ⟨ad169, e169, hx169_0⟩ := Kd.at_string HR0.out 1 p169 q169
               have hw169_0 := hx169_0
               (try rw [show ((1 : Int)).toNat = 1 from rfl] at hw169_0)
               (try rw [show 1 * 1 = 1 from rfl] at hw169_0)
               (try simp only [Nat.reduceMul, Nat.reduceEqDiff, Go.Addr.add, ↓reduceIte] at hw169_0)
               obtain rfl : ad165 = ad169 := (by injection e169)
               (try simp only [show (1 : Int).toNat = 1 from rfl, Nat.reduceMul, Nat.reduceEqDiff, Go.Addr.add, ↓reduceIte] at hx169_0)
               have qi169 : (1 < l0.length) = True := eq_true (by omega)
               (try rw [show ((1 : Int)).toNat = 1 from rfl] at hx169_0)
               replace hx169_0 := Rgn.hx HB.out hx169_0
               replace p169 := eq_true p169
               replace q169 := eq_true q169
               refine start_ (n := 10) (S := fun w' => w'.cell? ⟨gb168, 0, none⟩ = some (.bool t166) ∧ w'.cell? ⟨gb168, 1, none⟩ = some (.string t167) ∧ w'.cell? ⟨ad165.block, ad165.off + 1, none⟩ = some (.string (rdOf ByteArray.empty l0 1))) (ds := []) #[false, false, false, false, false, false, false, false, false, false] (by kernel_rfl) rfl rfl ⟨(blk_cell BK168.out 0).trans rfl, (blk_cell BK168.out 1).trans rfl, ((HB.out.cell (World.block_lt_of_cell? w _ hw169_0)).trans hw169_0)⟩ (fun hHeld => ?_); refine with_tabW spec_l14Long.tab9 spec_l14Long.bits9 (fun HT_ HW_ => ?_)
               generalize w56.drew = w57 at BK154 BK168 HB hx169_0 hHeld ⊢
               refine Rgn.pu HT_.out 0 83 ?_
               refine Rgn.pu HT_.out 1 84 ?_
               refine Rgn.pu HT_.out 3 86 ?_
               refine Rgn.pu HT_.out 6 89 ?_
               refine Rgn.tk HT_.out HW_.out 2 85 hHeld ?_
               refine Rgn.tk HT_.out HW_.out 4 87 hHeld ?_
               refine Rgn.pu HT_.out 5 88 ?_
               refine Rgn.tk HT_.out HW_.out 7 90 hHeld ?_
               refine one_ (i := 8) (N := none) #[true, true, true, true, true, true, true, true, true, false] rfl rfl (one_of HT_.out (by kernel_rfl)) (by decide) (fun K hK => ?_)
               have hs58 : w57.cell? ⟨gb154, 0, none⟩ = some (.int .i64 0) := (blk_cell BK154.out 0).trans rfl
               have hfs58 := blk_frozen BK154.out 0
               have hns58_1 := NB168_154.out
               have hms58_1 := NB154_168.out
               have hs59 : w57.cell? ⟨gb154, 1, none⟩ = some (.string (⟨#[]⟩ : ByteArray)) := (blk_cell BK154.out 1).trans rfl
               have hfs59 := blk_frozen BK154.out 1
               have hns59_1 := NB168_154.out
               have hms59_1 := NB154_168.out
               have hs60 : w57.cell? ⟨gb154, 2, none⟩ = some (.string (⟨#[]⟩ : ByteArray)) := (blk_cell BK154.out 2).trans rfl
               have hfs60 := blk_frozen BK154.out 2
               have hns60_1 := NB168_154.out
               have hms60_1 := NB154_168.out
               have hs61 : w57.cell? ⟨gb154, 3, none⟩ = some (.int .i64 0) := (blk_cell BK154.out 3).trans rfl
               have hfs61 := blk_frozen BK154.out 3
               have hns61_1 := NB168_154.out
               have hms61_1 := NB154_168.out
               have hs62 : w57.cell? ⟨gb154, 4, none⟩ = some (.int .i64 0) := (blk_cell BK154.out 4).trans rfl
               have hfs62 := blk_frozen BK154.out 4
               have hns62_1 := NB168_154.out
               have hms62_1 := NB154_168.out
               have hs63 : w57.cell? ⟨gb154, 5, none⟩ = some (.int .i64 0) := (blk_cell BK154.out 5).trans rfl
               have hfs63 := blk_frozen BK154.out 5
               have hns63_1 := NB168_154.out
               have hms63_1 := NB154_168.out
               have hs64 : w57.cell? ⟨gb154, 6, none⟩ = some (.string (⟨#[]⟩ : ByteArray)) := (blk_cell BK154.out 6).trans rfl
               have hfs64 := blk_frozen BK154.out 6
               have hns64_1 := NB168_154.out
               have hms64_1 := NB154_168.out
               refine skip_ (w1 := ?_) (by rfl) rfl ?_ ?_
               rotate_left
               ·
                go_simp
                rfl
               refine hK.out _ _ ⟨(Rgn.far7 NB168_154.out hHeld.1), (Rgn.far7 NB168_154.out hHeld.2.1), (Rgn.far7 (Rgn.nb hw169_0 GW154.out) hHeld.2.2)⟩ (fun hHeld => ?_)
               clear hK K
               refine Rgn.pu HT_.out 9 3 ?_
               refine done_ (done_of HT_.out (by kernel_rfl)) ?_
               try go_wp2
               refine bodyPost_ret (results_ct rfl _ _ gb154 24 _ (0, 0) _ rfl (by exact Rgn.put7 (Rgn.kf BK154.out)) Tryd.underlying24 rfl (by kernel_rfl)) rfl ?_
               exact ⟨by first | rfl | (simp [errW_none, errW_some] <;> rfl) | (simp [*, errW_none, errW_some] <;> rfl), Rgn.bq HB.out⟩
              ·
               rw [if_neg c51] at H
               exact absurd H (by simp)
             ·
              rw [if_neg c49] at H
              exact absurd H (by simp)
            ·
             replace c48 := Bool.eq_false_iff.mpr c48
             subst c48
             replace H := Rgn.im H
             have HC65 := Aside0.mk H
             clear H
             go_upto_region 10 with (fail)
             go_cut [91] from 91 to 91 (fun v91 wc => ∃ (kq : Nat) (x91_64 : Bool), v91 = .bool x91_64 ∧ Aside0 (spec_l14Long.j4 kq l0 x91_64 = some (r1, r2, r3, r4, r5, r6, r7, r8)) ∧ Aside0 (kq ≤ kj44) ∧ Aside0 (wc.heap[gb154]? = some (.cells #[.int .i64 0, .string (⟨#[]⟩ : ByteArray), .string (⟨#[]⟩ : ByteArray), .int .i64 0, .int .i64 0, .int .i64 0, .string (⟨#[]⟩ : ByteArray)] 24 (0, 0))) ∧ Aside0 (Below w.heap.size w wc))
             case first =>
              have H := HC65.out
              clear HC65
              by_cases c66 : 0 < (l0.length : Int)
              ·
               rw [if_pos c66] at H
               have c66b0 : decide (0 < (l0.length : Int)) = true := decide_eq_true c66
               have c66b1 : decide (0 < l0.length) = true := decide_eq_true (by omega)
               clear c66
               (first | rw [c66b0] | (simp only [i64_w, i32_w]; rw [c66b0]) | skip)
               by_cases c67 : (rdOf ByteArray.empty l0 0).toList = ([119, 114, 105, 116, 101] : List UInt8)
               ·
                rw [if_pos c67] at H
                have c67b0 : ((rdOf ByteArray.empty l0 0).toList == ([119, 114, 105, 116, 101] : List UInt8)) = true := beq_iff_eq.mpr c67
                have c67b1 : ((rdOf ByteArray.empty l0 0).toList != ([119, 114, 105, 116, 101] : List UInt8)) = false := bne_eq_false_iff_eq.mpr c67
                clear c67
                have H' := Aside0.mk H
                clear H
                have p170 : 0 ≤ (0 : Int) := (by omega)
                have q170 : 0 < (l0.length : Int) := of_decide_eq_true (by first | (with_reducible assumption) | assumption)
                obtain ⟨ad170, e170, hx170_0⟩ := Kd.at_string HR0.out 0 p170 q170
                cases e170
                have qi170 : (0 < l0.length) = True := eq_true (by omega)
                (try rw [show ((0 : Int)).toNat = 0 from rfl] at hx170_0)
                (try rw [Addr.add_zero'] at hx170_0)
                replace hx170_0 := Rgn.hx HB.out hx170_0
                replace p170 := eq_true p170
                replace q170 := eq_true q170
                go_wp2
                go_meet
                case rel => exact ⟨_, (((l0.length : Int) == 4)), (by first | rfl | (simp; done) | (simp [*]; done)), H', ⟨by have := HJ1.out; have := HJ16.out; have := HJ30.out; have := HJ44.out; first | omega | exact Nat.le_refl _⟩, ⟨Rgn.kb BK154.out⟩, ⟨Rgn.bq HB.out⟩⟩
               ·
                rw [if_neg c67] at H
                have c67b0 : ((rdOf ByteArray.empty l0 0).toList == ([119, 114, 105, 116, 101] : List UInt8)) = false := beq_eq_false_iff_ne.mpr c67
                have c67b1 : ((rdOf ByteArray.empty l0 0).toList != ([119, 114, 105, 116, 101] : List UInt8)) = true := bne_iff_ne.mpr c67
                have H' := Aside0.mk H
                clear H
                have p170 : 0 ≤ (0 : Int) := (by omega)
                have q170 : 0 < (l0.length : Int) := of_decide_eq_true (by first | (with_reducible assumption) | assumption)
                obtain ⟨ad170, e170, hx170_0⟩ := Kd.at_string HR0.out 0 p170 q170
                cases e170
                have qi170 : (0 < l0.length) = True := eq_true (by omega)
                (try rw [show ((0 : Int)).toNat = 0 from rfl] at hx170_0)
                (try rw [Addr.add_zero'] at hx170_0)
                replace hx170_0 := Rgn.hx HB.out hx170_0
                replace p170 := eq_true p170
                replace q170 := eq_true q170
                go_wp2
                go_meet
                case rel => exact ⟨_, (false), (by first | rfl | (simp; done) | (simp [*]; done)), H', ⟨by have := HJ1.out; have := HJ16.out; have := HJ30.out; have := HJ44.out; first | omega | exact Nat.le_refl _⟩, ⟨Rgn.kb BK154.out⟩, ⟨Rgn.bq HB.out⟩⟩
              ·
               rw [if_neg c66] at H
               exact absurd H (by simp)
             case rest =>
              clear HC65
              try clear c6
              try clear c20
              try clear c34
              try clear c48
              obtain ⟨kq, x91_64, rfl, HA, HJ64, BK154, HB⟩ := hcut
              cases kq with
              | zero => exact absurd HA.out (by simp [spec_l14Long.j4])
              | succ kj64 =>
               have H := HA.out
               clear HA
               simp only [spec_l14Long.j4] at H
               by_cases c68 : x91_64 = true
               ·
                subst c68
                replace H := Rgn.ip H
                by_cases c69 : 2 < (l0.length : Int)
                ·
                 rw [if_pos c69] at H
                 have c69b0 : decide (2 < (l0.length : Int)) = true := decide_eq_true c69
                 have c69b1 : decide (2 < l0.length) = true := decide_eq_true (by omega)
                 clear c69
                 replace H := Option.bind_eq_some_iff.mp H
                 obtain ⟨⟨t172, t173⟩, A700, H⟩ := H
                 replace H : (if 3 < (l0.length : Int) then ((spec_Unquote.f kj64 (rdOf ByteArray.empty l0 3)).bind fun bt175 => (if 1 < (l0.length : Int) then (if t173 = true then (some (6, rdOf ByteArray.empty l0 1, (⟨#[]⟩ : ByteArray), 0, t172, 0, bt175.2, bt175.1)) else (some (6, rdOf ByteArray.empty l0 1, (⟨#[]⟩ : ByteArray), 0, t172, 0, bt175.2, false))) else (none))) else (none)) = some (r1, r2, r3, r4, r5, r6, r7, r8) := H
                 have A70 := Aside0.mk A700
                 clear A700
                 by_cases c71 : 3 < (l0.length : Int)
                 ·
                  rw [if_pos c71] at H
                  have c71b0 : decide (3 < (l0.length : Int)) = true := decide_eq_true c71
                  have c71b1 : decide (3 < l0.length) = true := decide_eq_true (by omega)
                  clear c71
                  replace H := Option.bind_eq_some_iff.mp H
                  obtain ⟨⟨t175, t176⟩, A720, H⟩ := H
                  replace H : (if 1 < (l0.length : Int) then (if t173 = true then (some (6, rdOf ByteArray.empty l0 1, (⟨#[]⟩ : ByteArray), 0, t172, 0, t176, t175)) else (some (6, rdOf ByteArray.empty l0 1, (⟨#[]⟩ : ByteArray), 0, t172, 0, t176, false))) else (none)) = some (r1, r2, r3, r4, r5, r6, r7, r8) := H
                  have A72 := Aside0.mk A720
                  clear A720
                  by_cases c73 : 1 < (l0.length : Int)
                  ·
                   rw [if_pos c73] at H
                   have c73b0 : decide (1 < (l0.length : Int)) = true := decide_eq_true c73
                   have c73b1 : decide (1 < l0.length) = true := decide_eq_true (by omega)
                   clear c73
                   by_cases c74 : t173 = true
                   ·
                    subst c74
                    replace H := Rgn.ip H
                    simp only [Option.some.injEq, Prod.mk.injEq] at H
                    obtain ⟨rfl, rfl, rfl, rfl, rfl, rfl, rfl, rfl⟩ := H
                    have p171 : 0 ≤ (2 : Int) := (by omega)
                    have q171 : 2 < (l0.length : Int) := of_decide_eq_true (by first | (with_reducible assumption) | assumption)
                    obtain ⟨ad171, e171, hx171_0⟩ := Kd.at_string HR0.out 2 p171 q171
                    cases e171
                    (try simp only [show (2 : Int).toNat = 2 from rfl, Nat.reduceMul, Nat.reduceEqDiff, Go.Addr.add, ↓reduceIte] at hx171_0)
                    have qi171 : (2 < l0.length) = True := eq_true (by omega)
                    (try rw [show ((2 : Int)).toNat = 2 from rfl] at hx171_0)
                    replace hx171_0 := Rgn.hx HB.out hx171_0
                    replace p171 := eq_true p171
                    replace q171 := eq_true q171
                    try go_wp2_with (first | ((with_reducible refine gate_callee (f := 60) rfl ?_); refine Rgn.gl (some 105) Tryd.func60 #[.string (rdOf ByteArray.empty l0 2)] ?_; (with_reducible refine (spec_l14Number.calls kj64 (rdOf ByteArray.empty l0 2) t172 true _ A70.out).mono ?_); rintro e w75 ⟨rfl, hb⟩; refine ⟨_, rfl, ?_⟩; replace BK154 := Aside0.mk (Rgn.bb BK154.out hb); replace HB := Aside0.mk (below_step (Rgn.bq HB.out) hb); (try clear hb); have p174 : 0 ≤ (3 : Int) := (by omega); have q174 : 3 < (l0.length : Int) := of_decide_eq_true (by first | (with_reducible assumption) | assumption); obtain ⟨ad174, e174, hx174_0⟩ := Kd.at_string HR0.out 3 p174 q174; obtain rfl : ad171 = ad174 := (by injection e174); (try simp only [show (3 : Int).toNat = 3 from rfl, Nat.reduceMul, Nat.reduceEqDiff, Go.Addr.add, ↓reduceIte] at hx174_0); have qi174 : (3 < l0.length) = True := eq_true (by omega); (try rw [show ((3 : Int)).toNat = 3 from rfl] at hx174_0); replace hx174_0 := Rgn.hx HB.out hx174_0; replace p174 := eq_true p174; replace q174 := eq_true q174) | ((with_reducible refine gate_callee (f := 61) rfl ?_); refine Rgn.gl (some 111) Tryd.func61 #[.string (rdOf ByteArray.empty l0 3)] ?_; (with_reducible refine (spec_Unquote.calls kj64 (rdOf ByteArray.empty l0 3) t175 t176 _ A72.out).mono ?_); rintro e w76 ⟨rfl, hb⟩; refine ⟨_, rfl, ?_⟩; replace BK154 := Aside0.mk (Rgn.bb BK154.out hb); replace HB := Aside0.mk (below_step (Rgn.bq HB.out) hb); (try clear hb)) | ((with_reducible refine gate_dst (N := 7) rfl ?_); (try (refine gate_guard (by rfl) ?_; dsimp only)); refine Rgn.bx 7 #[.bool false, .string (⟨#[]⟩ : ByteArray)] 77 ?_; intro gb177 hg w77 hbox hb; have BK177 := Aside0.mk (hbox); have GW177 := Aside0.mk (Rgn.ge hg HB.out); have GE177 := Aside0.mk (Rgn.ge hg HB.out); replace HB := Aside0.mk (below_step (Rgn.bq HB.out) hb); have NB154_177 := Aside0.mk (Rgn.nl hg BK154.out); have NB177_154 := Aside0.mk (Rgn.ng hg BK154.out); replace BK154 := Aside0.mk (Rgn.bb BK154.out hb); clear hb hbox hg; have hnb78 := NB177_154.out; have hnc78 := NB154_177.out; obtain ⟨hcz79_0, hcz79_1, hfz79_0, hfz79_1⟩ := Rgn.c2 BK177.out))
                    have n0_ : Aside0 (((w77.setCell ⟨gb177, 0, none⟩ (.bool t175)).setCell ⟨gb177, 1, none⟩ (.string t176)).heap[gb154]? = some (.cells #[.int .i64 0, .string (⟨#[]⟩ : ByteArray), .string (⟨#[]⟩ : ByteArray), .int .i64 0, .int .i64 0, .int .i64 0, .string (⟨#[]⟩ : ByteArray)] 24 (0, 0))) := ⟨Rgn.kf BK154.out⟩
                    have n1_ : Aside0 (((w77.setCell ⟨gb177, 0, none⟩ (.bool t175)).setCell ⟨gb177, 1, none⟩ (.string t176)).heap[gb177]? = some (.cells #[.bool t175, .string t176] 77 (0, 0))) := ⟨by (with_reducible repeat (first | refine blk_drewN ?_ _ | refine blk_drew ?_ | refine blk_alloc ?_ _)); refine blk_put (cs := #[.bool t175, .string (⟨#[]⟩ : ByteArray)]) ?_ 1 _ rfl; (with_reducible repeat (first | refine blk_drewN ?_ _ | refine blk_drew ?_ | refine blk_alloc ?_ _)); refine blk_put (cs := #[.bool false, .string (⟨#[]⟩ : ByteArray)]) ?_ 0 _ rfl; (with_reducible repeat (first | refine blk_drewN ?_ _ | refine blk_drew ?_ | refine blk_alloc ?_ _)); exact BK177.out⟩
                    have n2_ : Aside0 (Below w.heap.size w ((w77.setCell ⟨gb177, 0, none⟩ (.bool t175)).setCell ⟨gb177, 1, none⟩ (.string t176))) := ⟨Rgn.bq HB.out⟩
                    (try clear BK154)
                    (try clear BK177)
                    (try clear HB)
                    generalize ((w77.setCell ⟨gb177, 0, none⟩ (.bool t175)).setCell ⟨gb177, 1, none⟩ (.string t176)) = w80 at n0_ n1_ n2_ ⊢
                    have BK154 := n0_
                    have BK177 := n1_
                    have HB := n2_
                    clear n0_ n1_ n2_
                    replace BK154 := Aside0.mk (blk_drew BK154.out)
                    replace BK177 := Aside0.mk (blk_drew BK177.out)
                    replace HB := Aside0.mk (below_drew1 HB.out)
                    have p178 : 0 ≤ (1 : Int) := (by omega)
                    have q178 : 1 < (l0.length : Int) := of_decide_eq_true (by first | (with_reducible assumption) | assumption)
                    obtain ⟨ad178, e178, hx178_0⟩ := Kd.at_string HR0.out 1 p178 q178
                    have hw178_0 := hx178_0
                    (try rw [show ((1 : Int)).toNat = 1 from rfl] at hw178_0)
                    (try rw [show 1 * 1 = 1 from rfl] at hw178_0)
                    (try simp only [Nat.reduceMul, Nat.reduceEqDiff, Go.Addr.add, ↓reduceIte] at hw178_0)
                    obtain rfl : ad171 = ad178 := (by injection e178)
                    (try simp only [show (1 : Int).toNat = 1 from rfl, Nat.reduceMul, Nat.reduceEqDiff, Go.Addr.add, ↓reduceIte] at hx178_0)
                    have qi178 : (1 < l0.length) = True := eq_true (by omega)
                    (try rw [show ((1 : Int)).toNat = 1 from rfl] at hx178_0)
                    replace hx178_0 := Rgn.hx HB.out hx178_0
                    replace p178 := eq_true p178
                    replace q178 := eq_true q178
                    refine start_ (n := 14) (S := fun w' => w'.cell? ⟨gb177, 0, none⟩ = some (.bool t175) ∧ w'.cell? ⟨gb177, 1, none⟩ = some (.string t176) ∧ w'.cell? ⟨ad171.block, ad171.off + 1, none⟩ = some (.string (rdOf ByteArray.empty l0 1))) (ds := []) #[false, false, false, false, false, false, false, false, false, false, false, false, false, false] (by kernel_rfl) rfl rfl ⟨(blk_cell BK177.out 0).trans rfl, (blk_cell BK177.out 1).trans rfl, ((HB.out.cell (World.block_lt_of_cell? w _ hw178_0)).trans hw178_0)⟩ (fun hHeld => ?_); refine with_tabW spec_l14Long.tab13 spec_l14Long.bits13 (fun HT_ HW_ => ?_)
                    generalize w80.drew = w81 at BK154 BK177 HB hx178_0 hHeld ⊢
                    refine Rgn.pu HT_.out 0 112 ?_
                    refine Rgn.pu HT_.out 1 113 ?_
                    refine Rgn.pu HT_.out 3 115 ?_
                    refine Rgn.pu HT_.out 4 116 ?_
                    refine Rgn.pu HT_.out 7 119 ?_
                    refine Rgn.pu HT_.out 8 120 ?_
                    refine Rgn.pu HT_.out 9 121 ?_
                    refine Rgn.tk HT_.out HW_.out 2 114 hHeld ?_
                    refine Rgn.tk HT_.out HW_.out 5 117 hHeld ?_
                    refine Rgn.pu HT_.out 6 118 ?_
                    refine Rgn.tk HT_.out HW_.out 10 122 hHeld ?_
                    refine Rgn.pu HT_.out 11 123 ?_
                    refine one_ (i := 12) (N := none) #[true, true, true, true, true, true, true, true, true, true, true, true, true, false] rfl rfl (one_of HT_.out (by kernel_rfl)) (by decide) (fun K hK => ?_)
                    have hs82 : w81.cell? ⟨gb154, 0, none⟩ = some (.int .i64 0) := (blk_cell BK154.out 0).trans rfl
                    have hfs82 := blk_frozen BK154.out 0
                    have hns82_1 := NB177_154.out
                    have hms82_1 := NB154_177.out
                    have hs83 : w81.cell? ⟨gb154, 1, none⟩ = some (.string (⟨#[]⟩ : ByteArray)) := (blk_cell BK154.out 1).trans rfl
                    have hfs83 := blk_frozen BK154.out 1
                    have hns83_1 := NB177_154.out
                    have hms83_1 := NB154_177.out
                    have hs84 : w81.cell? ⟨gb154, 2, none⟩ = some (.string (⟨#[]⟩ : ByteArray)) := (blk_cell BK154.out 2).trans rfl
                    have hfs84 := blk_frozen BK154.out 2
                    have hns84_1 := NB177_154.out
                    have hms84_1 := NB154_177.out
                    have hs85 : w81.cell? ⟨gb154, 3, none⟩ = some (.int .i64 0) := (blk_cell BK154.out 3).trans rfl
                    have hfs85 := blk_frozen BK154.out 3
                    have hns85_1 := NB177_154.out
                    have hms85_1 := NB154_177.out
                    have hs86 : w81.cell? ⟨gb154, 4, none⟩ = some (.int .i64 0) := (blk_cell BK154.out 4).trans rfl
                    have hfs86 := blk_frozen BK154.out 4
                    have hns86_1 := NB177_154.out
                    have hms86_1 := NB154_177.out
                    have hs87 : w81.cell? ⟨gb154, 5, none⟩ = some (.int .i64 0) := (blk_cell BK154.out 5).trans rfl
                    have hfs87 := blk_frozen BK154.out 5
                    have hns87_1 := NB177_154.out
                    have hms87_1 := NB154_177.out
                    have hs88 : w81.cell? ⟨gb154, 6, none⟩ = some (.string (⟨#[]⟩ : ByteArray)) := (blk_cell BK154.out 6).trans rfl
                    have hfs88 := blk_frozen BK154.out 6
                    have hns88_1 := NB177_154.out
                    have hms88_1 := NB154_177.out
                    refine skip_ (w1 := ?_) (by rfl) rfl ?_ ?_
                    rotate_left
                    ·
                     go_simp
                     rfl
                    refine hK.out _ _ ⟨(Rgn.far7 NB177_154.out hHeld.1), (Rgn.far7 NB177_154.out hHeld.2.1), (Rgn.far7 (Rgn.nb hw178_0 GW154.out) hHeld.2.2)⟩ (fun hHeld => ?_)
                    clear hK K
                    refine Rgn.pu HT_.out 13 3 ?_
                    refine done_ (done_of HT_.out (by kernel_rfl)) ?_
                    try go_wp2
                    refine bodyPost_ret (results_ct rfl _ _ gb154 24 _ (0, 0) _ rfl (by exact Rgn.put7 (Rgn.kf BK154.out)) Tryd.underlying24 rfl (by kernel_rfl)) rfl ?_
                    exact ⟨by first | rfl | (simp [errW_none, errW_some] <;> rfl) | (simp [*, errW_none, errW_some] <;> rfl), Rgn.bq HB.out⟩
                   ·
                    replace c74 := Bool.eq_false_iff.mpr c74
                    subst c74
                    replace H := Rgn.im H
                    simp only [Option.some.injEq, Prod.mk.injEq] at H
                    obtain ⟨rfl, rfl, rfl, rfl, rfl, rfl, rfl, rfl⟩ := H
                    have p171 : 0 ≤ (2 : Int) := (by omega)
                    have q171 : 2 < (l0.length : Int) := of_decide_eq_true (by first | (with_reducible assumption) | assumption)
                    obtain ⟨ad171, e171, hx171_0⟩ := Kd.at_string HR0.out 2 p171 q171
                    cases e171
                    (try simp only [show (2 : Int).toNat = 2 from rfl, Nat.reduceMul, Nat.reduceEqDiff, Go.Addr.add, ↓reduceIte] at hx171_0)
                    have qi171 : (2 < l0.length) = True := eq_true (by omega)
                    (try rw [show ((2 : Int)).toNat = 2 from rfl] at hx171_0)
                    replace hx171_0 := Rgn.hx HB.out hx171_0
                    replace p171 := eq_true p171
                    replace q171 := eq_true q171
                    try go_wp2_with (first | ((with_reducible refine gate_callee (f := 60) rfl ?_); refine Rgn.gl (some 105) Tryd.func60 #[.string (rdOf ByteArray.empty l0 2)] ?_; (with_reducible refine (spec_l14Number.calls kj64 (rdOf ByteArray.empty l0 2) t172 false _ A70.out).mono ?_); rintro e w89 ⟨rfl, hb⟩; refine ⟨_, rfl, ?_⟩; replace BK154 := Aside0.mk (Rgn.bb BK154.out hb); replace HB := Aside0.mk (below_step (Rgn.bq HB.out) hb); (try clear hb); have p174 : 0 ≤ (3 : Int) := (by omega); have q174 : 3 < (l0.length : Int) := of_decide_eq_true (by first | (with_reducible assumption) | assumption); obtain ⟨ad174, e174, hx174_0⟩ := Kd.at_string HR0.out 3 p174 q174; obtain rfl : ad171 = ad174 := (by injection e174); (try simp only [show (3 : Int).toNat = 3 from rfl, Nat.reduceMul, Nat.reduceEqDiff, Go.Addr.add, ↓reduceIte] at hx174_0); have qi174 : (3 < l0.length) = True := eq_true (by omega); (try rw [show ((3 : Int)).toNat = 3 from rfl] at hx174_0); replace hx174_0 := Rgn.hx HB.out hx174_0; replace p174 := eq_true p174; replace q174 := eq_true q174) | ((with_reducible refine gate_callee (f := 61) rfl ?_); refine Rgn.gl (some 111) Tryd.func61 #[.string (rdOf ByteArray.empty l0 3)] ?_; (with_reducible refine (spec_Unquote.calls kj64 (rdOf ByteArray.empty l0 3) t175 t176 _ A72.out).mono ?_); rintro e w90 ⟨rfl, hb⟩; refine ⟨_, rfl, ?_⟩; replace BK154 := Aside0.mk (Rgn.bb BK154.out hb); replace HB := Aside0.mk (below_step (Rgn.bq HB.out) hb); (try clear hb)) | ((with_reducible refine gate_dst (N := 7) rfl ?_); (try (refine gate_guard (by rfl) ?_; dsimp only)); refine Rgn.bx 7 #[.bool false, .string (⟨#[]⟩ : ByteArray)] 77 ?_; intro gb177 hg w91 hbox hb; have BK177 := Aside0.mk (hbox); have GW177 := Aside0.mk (Rgn.ge hg HB.out); have GE177 := Aside0.mk (Rgn.ge hg HB.out); replace HB := Aside0.mk (below_step (Rgn.bq HB.out) hb); have NB154_177 := Aside0.mk (Rgn.nl hg BK154.out); have NB177_154 := Aside0.mk (Rgn.ng hg BK154.out); replace BK154 := Aside0.mk (Rgn.bb BK154.out hb); clear hb hbox hg; have hnb92 := NB177_154.out; have hnc92 := NB154_177.out; obtain ⟨hcz93_0, hcz93_1, hfz93_0, hfz93_1⟩ := Rgn.c2 BK177.out))
                    have n0_ : Aside0 (((w91.setCell ⟨gb177, 0, none⟩ (.bool t175)).setCell ⟨gb177, 1, none⟩ (.string t176)).heap[gb154]? = some (.cells #[.int .i64 0, .string (⟨#[]⟩ : ByteArray), .string (⟨#[]⟩ : ByteArray), .int .i64 0, .int .i64 0, .int .i64 0, .string (⟨#[]⟩ : ByteArray)] 24 (0, 0))) := ⟨Rgn.kf BK154.out⟩
                    have n1_ : Aside0 (((w91.setCell ⟨gb177, 0, none⟩ (.bool t175)).setCell ⟨gb177, 1, none⟩ (.string t176)).heap[gb177]? = some (.cells #[.bool t175, .string t176] 77 (0, 0))) := ⟨by (with_reducible repeat (first | refine blk_drewN ?_ _ | refine blk_drew ?_ | refine blk_alloc ?_ _)); refine blk_put (cs := #[.bool t175, .string (⟨#[]⟩ : ByteArray)]) ?_ 1 _ rfl; (with_reducible repeat (first | refine blk_drewN ?_ _ | refine blk_drew ?_ | refine blk_alloc ?_ _)); refine blk_put (cs := #[.bool false, .string (⟨#[]⟩ : ByteArray)]) ?_ 0 _ rfl; (with_reducible repeat (first | refine blk_drewN ?_ _ | refine blk_drew ?_ | refine blk_alloc ?_ _)); exact BK177.out⟩
                    have n2_ : Aside0 (Below w.heap.size w ((w91.setCell ⟨gb177, 0, none⟩ (.bool t175)).setCell ⟨gb177, 1, none⟩ (.string t176))) := ⟨Rgn.bq HB.out⟩
                    (try clear BK154)
                    (try clear BK177)
                    (try clear HB)
                    generalize ((w91.setCell ⟨gb177, 0, none⟩ (.bool t175)).setCell ⟨gb177, 1, none⟩ (.string t176)) = w94 at n0_ n1_ n2_ ⊢
                    have BK154 := n0_
                    have BK177 := n1_
                    have HB := n2_
                    clear n0_ n1_ n2_
                    replace BK154 := Aside0.mk (blk_drew BK154.out)
                    replace BK177 := Aside0.mk (blk_drew BK177.out)
                    replace HB := Aside0.mk (below_drew1 HB.out)
                    have p178 : 0 ≤ (1 : Int) := (by omega)
                    have q178 : 1 < (l0.length : Int) := of_decide_eq_true (by first | (with_reducible assumption) | assumption)
                    obtain ⟨ad178, e178, hx178_0⟩ := Kd.at_string HR0.out 1 p178 q178
                    have hw178_0 := hx178_0
                    (try rw [show ((1 : Int)).toNat = 1 from rfl] at hw178_0)
                    (try rw [show 1 * 1 = 1 from rfl] at hw178_0)
                    (try simp only [Nat.reduceMul, Nat.reduceEqDiff, Go.Addr.add, ↓reduceIte] at hw178_0)
                    obtain rfl : ad171 = ad178 := (by injection e178)
                    (try simp only [show (1 : Int).toNat = 1 from rfl, Nat.reduceMul, Nat.reduceEqDiff, Go.Addr.add, ↓reduceIte] at hx178_0)
                    have qi178 : (1 < l0.length) = True := eq_true (by omega)
                    (try rw [show ((1 : Int)).toNat = 1 from rfl] at hx178_0)
                    replace hx178_0 := Rgn.hx HB.out hx178_0
                    replace p178 := eq_true p178
                    replace q178 := eq_true q178
                    refine start_ (n := 14) (S := fun w' => w'.cell? ⟨gb177, 0, none⟩ = some (.bool t175) ∧ w'.cell? ⟨gb177, 1, none⟩ = some (.string t176) ∧ w'.cell? ⟨ad171.block, ad171.off + 1, none⟩ = some (.string (rdOf ByteArray.empty l0 1))) (ds := []) #[false, false, false, false, false, false, false, false, false, false, false, false, false, false] (by kernel_rfl) rfl rfl ⟨(blk_cell BK177.out 0).trans rfl, (blk_cell BK177.out 1).trans rfl, ((HB.out.cell (World.block_lt_of_cell? w _ hw178_0)).trans hw178_0)⟩ (fun hHeld => ?_); refine with_tabW spec_l14Long.tab13 spec_l14Long.bits13 (fun HT_ HW_ => ?_)
                    generalize w94.drew = w95 at BK154 BK177 HB hx178_0 hHeld ⊢
                    refine Rgn.pu HT_.out 0 112 ?_
                    refine Rgn.pu HT_.out 1 113 ?_
                    refine Rgn.pu HT_.out 3 115 ?_
                    refine Rgn.pu HT_.out 4 116 ?_
                    refine Rgn.pu HT_.out 7 119 ?_
                    refine Rgn.pu HT_.out 8 120 ?_
                    refine Rgn.pn HT_.out 9 121 ?_
                    refine Rgn.pn HT_.out 10 122 ?_
                    refine Rgn.pu HT_.out 11 123 ?_
                    refine Rgn.tk HT_.out HW_.out 2 114 hHeld ?_
                    refine Rgn.tk HT_.out HW_.out 5 117 hHeld ?_
                    refine Rgn.pu HT_.out 6 118 ?_
                    refine one_ (i := 12) (N := none) #[true, true, true, true, true, true, true, true, true, true, true, true, true, false] rfl rfl (one_of HT_.out (by kernel_rfl)) (by decide) (fun K hK => ?_)
                    have hs96 : w95.cell? ⟨gb154, 0, none⟩ = some (.int .i64 0) := (blk_cell BK154.out 0).trans rfl
                    have hfs96 := blk_frozen BK154.out 0
                    have hns96_1 := NB177_154.out
                    have hms96_1 := NB154_177.out
                    have hs97 : w95.cell? ⟨gb154, 1, none⟩ = some (.string (⟨#[]⟩ : ByteArray)) := (blk_cell BK154.out 1).trans rfl
                    have hfs97 := blk_frozen BK154.out 1
                    have hns97_1 := NB177_154.out
                    have hms97_1 := NB154_177.out
                    have hs98 : w95.cell? ⟨gb154, 2, none⟩ = some (.string (⟨#[]⟩ : ByteArray)) := (blk_cell BK154.out 2).trans rfl
                    have hfs98 := blk_frozen BK154.out 2
                    have hns98_1 := NB177_154.out
                    have hms98_1 := NB154_177.out
                    have hs99 : w95.cell? ⟨gb154, 3, none⟩ = some (.int .i64 0) := (blk_cell BK154.out 3).trans rfl
                    have hfs99 := blk_frozen BK154.out 3
                    have hns99_1 := NB177_154.out
                    have hms99_1 := NB154_177.out
                    have hs100 : w95.cell? ⟨gb154, 4, none⟩ = some (.int .i64 0) := (blk_cell BK154.out 4).trans rfl
                    have hfs100 := blk_frozen BK154.out 4
                    have hns100_1 := NB177_154.out
                    have hms100_1 := NB154_177.out
                    have hs101 : w95.cell? ⟨gb154, 5, none⟩ = some (.int .i64 0) := (blk_cell BK154.out 5).trans rfl
                    have hfs101 := blk_frozen BK154.out 5
                    have hns101_1 := NB177_154.out
                    have hms101_1 := NB154_177.out
                    have hs102 : w95.cell? ⟨gb154, 6, none⟩ = some (.string (⟨#[]⟩ : ByteArray)) := (blk_cell BK154.out 6).trans rfl
                    have hfs102 := blk_frozen BK154.out 6
                    have hns102_1 := NB177_154.out
                    have hms102_1 := NB154_177.out
                    refine skip_ (w1 := ?_) (by rfl) rfl ?_ ?_
                    rotate_left
                    ·
                     go_simp
                     rfl
                    refine hK.out _ _ ⟨(Rgn.far7 NB177_154.out hHeld.1), (Rgn.far7 NB177_154.out hHeld.2.1), (Rgn.far7 (Rgn.nb hw178_0 GW154.out) hHeld.2.2)⟩ (fun hHeld => ?_)
                    clear hK K
                    refine Rgn.pu HT_.out 13 3 ?_
                    refine done_ (done_of HT_.out (by kernel_rfl)) ?_
                    try go_wp2
                    refine bodyPost_ret (results_ct rfl _ _ gb154 24 _ (0, 0) _ rfl (by exact Rgn.put7 (Rgn.kf BK154.out)) Tryd.underlying24 rfl (by kernel_rfl)) rfl ?_
                    exact ⟨by first | rfl | (simp [errW_none, errW_some] <;> rfl) | (simp [*, errW_none, errW_some] <;> rfl), Rgn.bq HB.out⟩
                  ·
                   rw [if_neg c73] at H
                   exact absurd H (by simp)
                 ·
                  rw [if_neg c71] at H
                  exact absurd H (by simp)
                ·
                 rw [if_neg c69] at H
                 exact absurd H (by simp)
               ·
                replace c68 := Bool.eq_false_iff.mpr c68
                subst c68
                replace H := Rgn.im H
                have HC103 := Aside0.mk H
                clear H
                go_upto_region 14 with (fail)
                go_cut [124] from 124 to 124 (fun v124 wc => ∃ (kq : Nat) (x124_102 : Bool), v124 = .bool x124_102 ∧ Aside0 (spec_l14Long.j5 kq l0 x124_102 = some (r1, r2, r3, r4, r5, r6, r7, r8)) ∧ Aside0 (kq ≤ kj64) ∧ Aside0 (wc.heap[gb154]? = some (.cells #[.int .i64 0, .string (⟨#[]⟩ : ByteArray), .string (⟨#[]⟩ : ByteArray), .int .i64 0, .int .i64 0, .int .i64 0, .string (⟨#[]⟩ : ByteArray)] 24 (0, 0))) ∧ Aside0 (Below w.heap.size w wc))
                case first =>
                 have H := HC103.out
                 clear HC103
                 by_cases c104 : 0 < (l0.length : Int)
                 ·
                  rw [if_pos c104] at H
                  have c104b0 : decide (0 < (l0.length : Int)) = true := decide_eq_true c104
                  have c104b1 : decide (0 < l0.length) = true := decide_eq_true (by omega)
                  clear c104
                  (first | rw [c104b0] | (simp only [i64_w, i32_w]; rw [c104b0]) | skip)
                  by_cases c105 : (rdOf ByteArray.empty l0 0).toList = ([102, 105, 108, 108] : List UInt8)
                  ·
                   rw [if_pos c105] at H
                   have c105b0 : ((rdOf ByteArray.empty l0 0).toList == ([102, 105, 108, 108] : List UInt8)) = true := beq_iff_eq.mpr c105
                   have c105b1 : ((rdOf ByteArray.empty l0 0).toList != ([102, 105, 108, 108] : List UInt8)) = false := bne_eq_false_iff_eq.mpr c105
                   clear c105
                   by_cases c106 : (l0.length : Int) = 5
                   ·
                    rw [if_pos c106] at H
                    have c106b0 : ((l0.length : Int) == 5) = true := beq_iff_eq.mpr c106
                    have c106b1 : ((l0.length : Int) != 5) = false := bne_eq_false_iff_eq.mpr c106
                    clear c106
                    by_cases c107 : 4 < (l0.length : Int)
                    ·
                     rw [if_pos c107] at H
                     have c107b0 : decide (4 < (l0.length : Int)) = true := decide_eq_true c107
                     have c107b1 : decide (4 < l0.length) = true := decide_eq_true (by omega)
                     clear c107
                     by_cases c108 : ((rdOf ByteArray.empty l0 4).size : Int) = 1
                     ·
                      rw [if_pos c108] at H
                      have c108b0 : (((rdOf ByteArray.empty l0 4).size : Int) == 1) = true := beq_iff_eq.mpr c108
                      have c108b1 : (((rdOf ByteArray.empty l0 4).size : Int) != 1) = false := bne_eq_false_iff_eq.mpr c108
                      clear c108
                      by_cases c109 : 0 < ((rdOf ByteArray.empty l0 4).size : Int)
                      ·
                       rw [if_pos c109] at H
                       have c109b0 : decide (0 < ((rdOf ByteArray.empty l0 4).size : Int)) = true := decide_eq_true c109
                       have c109b1 : decide (0 < (rdOf ByteArray.empty l0 4).size) = true := decide_eq_true (by omega)
                       clear c109
                       by_cases c111 : (bt (rdOf ByteArray.empty l0 4) 0) ≥ 97
                       ·
                        rw [if_pos c111] at H
                        have c111b0 : decide (97 ≤ (bt (rdOf ByteArray.empty l0 4) 0)) = true := decide_eq_true c111
                        clear c111
                        have H' := Aside0.mk H
                        clear H
                        have p179 : 0 ≤ (0 : Int) := (by omega)
                        have q179 : 0 < (l0.length : Int) := of_decide_eq_true (by first | (with_reducible assumption) | assumption)
                        obtain ⟨ad179, e179, hx179_0⟩ := Kd.at_string HR0.out 0 p179 q179
                        cases e179
                        have qi179 : (0 < l0.length) = True := eq_true (by omega)
                        (try rw [show ((0 : Int)).toNat = 0 from rfl] at hx179_0)
                        (try rw [Addr.add_zero'] at hx179_0)
                        replace hx179_0 := Rgn.hx HB.out hx179_0
                        replace p179 := eq_true p179
                        replace q179 := eq_true q179
                        have p180 : 0 ≤ (4 : Int) := (by omega)
                        have q180 : 4 < (l0.length : Int) := of_decide_eq_true (by first | (with_reducible assumption) | assumption)
                        obtain ⟨ad180, e180, hx180_0⟩ := Kd.at_string HR0.out 4 p180 q180
                        obtain rfl : ad179 = ad180 := (by injection e180)
                        (try simp only [show (4 : Int).toNat = 4 from rfl, Nat.reduceMul, Nat.reduceEqDiff, Go.Addr.add, ↓reduceIte] at hx180_0)
                        have qi180 : (4 < l0.length) = True := eq_true (by omega)
                        (try rw [show ((4 : Int)).toNat = 4 from rfl] at hx180_0)
                        replace hx180_0 := Rgn.hx HB.out hx180_0
                        replace p180 := eq_true p180
                        replace q180 := eq_true q180
                        have p181 : 0 ≤ (4 : Int) := (by omega)
                        have q181 : 4 < (l0.length : Int) := of_decide_eq_true (by first | (with_reducible assumption) | assumption)
                        obtain ⟨ad181, e181, hx181_0⟩ := Kd.at_string HR0.out 4 p181 q181
                        obtain rfl : ad179 = ad181 := (by injection e181)
                        (try simp only [show (4 : Int).toNat = 4 from rfl, Nat.reduceMul, Nat.reduceEqDiff, Go.Addr.add, ↓reduceIte] at hx181_0)
                        have qi181 : (4 < l0.length) = True := eq_true (by omega)
                        (try rw [show ((4 : Int)).toNat = 4 from rfl] at hx181_0)
                        replace hx181_0 := Rgn.hx HB.out hx181_0
                        replace p181 := eq_true p181
                        replace q181 := eq_true q181
                        have p110 : 0 ≤ (0 : Int) := (by omega)
                        have q110 : 0 < (rdOf ByteArray.empty l0 4).size := (by have : (0 : Int) < ((rdOf ByteArray.empty l0 4).size : Int) := of_decide_eq_true (by first | (with_reducible assumption) | assumption); omega)
                        have hx110 : ∀ h : 0 < (rdOf ByteArray.empty l0 4).size, (((rdOf ByteArray.empty l0 4)[0]'h).toNat : Int) = bt (rdOf ByteArray.empty l0 4) 0 := bt_at (rdOf ByteArray.empty l0 4) 0
                        clear p110
                        have qi110 : (0 < ((rdOf ByteArray.empty l0 4).size : Int)) = True := eq_true (of_decide_eq_true (by first | (with_reducible assumption) | assumption))
                        replace q110 := eq_true q110
                        have p182 : 0 ≤ (4 : Int) := (by omega)
                        have q182 : 4 < (l0.length : Int) := of_decide_eq_true (by first | (with_reducible assumption) | assumption)
                        obtain ⟨ad182, e182, hx182_0⟩ := Kd.at_string HR0.out 4 p182 q182
                        obtain rfl : ad179 = ad182 := (by injection e182)
                        (try simp only [show (4 : Int).toNat = 4 from rfl, Nat.reduceMul, Nat.reduceEqDiff, Go.Addr.add, ↓reduceIte] at hx182_0)
                        have qi182 : (4 < l0.length) = True := eq_true (by omega)
                        (try rw [show ((4 : Int)).toNat = 4 from rfl] at hx182_0)
                        replace hx182_0 := Rgn.hx HB.out hx182_0
                        replace p182 := eq_true p182
                        replace q182 := eq_true q182
                        have p112 : 0 ≤ (0 : Int) := (by omega)
                        have q112 : 0 < (rdOf ByteArray.empty l0 4).size := (by have : (0 : Int) < ((rdOf ByteArray.empty l0 4).size : Int) := of_decide_eq_true (by first | (with_reducible assumption) | assumption); omega)
                        have hx112 : ∀ h : 0 < (rdOf ByteArray.empty l0 4).size, (((rdOf ByteArray.empty l0 4)[0]'h).toNat : Int) = bt (rdOf ByteArray.empty l0 4) 0 := bt_at (rdOf ByteArray.empty l0 4) 0
                        clear p112
                        have qi112 : (0 < ((rdOf ByteArray.empty l0 4).size : Int)) = True := eq_true (of_decide_eq_true (by first | (with_reducible assumption) | assumption))
                        replace q112 := eq_true q112
                        go_wp2
                        go_meet
                        case rel => exact ⟨_, (decide ((bt (rdOf ByteArray.empty l0 4) 0) ≤ 122)), (by first | rfl | (simp; done) | (simp [*]; done)), H', ⟨by have := HJ1.out; have := HJ16.out; have := HJ30.out; have := HJ44.out; have := HJ64.out; first | omega | exact Nat.le_refl _⟩, ⟨Rgn.kb BK154.out⟩, ⟨Rgn.bq HB.out⟩⟩
                       ·
                        rw [if_neg c111] at H
                        have c111b0 : decide (97 ≤ (bt (rdOf ByteArray.empty l0 4) 0)) = false := decide_eq_false c111
                        clear c111
                        have H' := Aside0.mk H
                        clear H
                        have p179 : 0 ≤ (0 : Int) := (by omega)
                        have q179 : 0 < (l0.length : Int) := of_decide_eq_true (by first | (with_reducible assumption) | assumption)
                        obtain ⟨ad179, e179, hx179_0⟩ := Kd.at_string HR0.out 0 p179 q179
                        cases e179
                        have qi179 : (0 < l0.length) = True := eq_true (by omega)
                        (try rw [show ((0 : Int)).toNat = 0 from rfl] at hx179_0)
                        (try rw [Addr.add_zero'] at hx179_0)
                        replace hx179_0 := Rgn.hx HB.out hx179_0
                        replace p179 := eq_true p179
                        replace q179 := eq_true q179
                        have p180 : 0 ≤ (4 : Int) := (by omega)
                        have q180 : 4 < (l0.length : Int) := of_decide_eq_true (by first | (with_reducible assumption) | assumption)
                        obtain ⟨ad180, e180, hx180_0⟩ := Kd.at_string HR0.out 4 p180 q180
                        obtain rfl : ad179 = ad180 := (by injection e180)
                        (try simp only [show (4 : Int).toNat = 4 from rfl, Nat.reduceMul, Nat.reduceEqDiff, Go.Addr.add, ↓reduceIte] at hx180_0)
                        have qi180 : (4 < l0.length) = True := eq_true (by omega)
                        (try rw [show ((4 : Int)).toNat = 4 from rfl] at hx180_0)
                        replace hx180_0 := Rgn.hx HB.out hx180_0
                        replace p180 := eq_true p180
                        replace q180 := eq_true q180
                        have p181 : 0 ≤ (4 : Int) := (by omega)
                        have q181 : 4 < (l0.length : Int) := of_decide_eq_true (by first | (with_reducible assumption) | assumption)
                        obtain ⟨ad181, e181, hx181_0⟩ := Kd.at_string HR0.out 4 p181 q181
                        obtain rfl : ad179 = ad181 := (by injection e181)
                        (try simp only [show (4 : Int).toNat = 4 from rfl, Nat.reduceMul, Nat.reduceEqDiff, Go.Addr.add, ↓reduceIte] at hx181_0)
                        have qi181 : (4 < l0.length) = True := eq_true (by omega)
                        (try rw [show ((4 : Int)).toNat = 4 from rfl] at hx181_0)
                        replace hx181_0 := Rgn.hx HB.out hx181_0
                        replace p181 := eq_true p181
                        replace q181 := eq_true q181
                        have p110 : 0 ≤ (0 : Int) := (by omega)
                        have q110 : 0 < (rdOf ByteArray.empty l0 4).size := (by have : (0 : Int) < ((rdOf ByteArray.empty l0 4).size : Int) := of_decide_eq_true (by first | (with_reducible assumption) | assumption); omega)
                        have hx110 : ∀ h : 0 < (rdOf ByteArray.empty l0 4).size, (((rdOf ByteArray.empty l0 4)[0]'h).toNat : Int) = bt (rdOf ByteArray.empty l0 4) 0 := bt_at (rdOf ByteArray.empty l0 4) 0
                        clear p110
                        have qi110 : (0 < ((rdOf ByteArray.empty l0 4).size : Int)) = True := eq_true (of_decide_eq_true (by first | (with_reducible assumption) | assumption))
                        replace q110 := eq_true q110
                        go_wp2
                        go_meet
                        case rel => exact ⟨_, (false), (by first | rfl | (simp; done) | (simp [*]; done)), H', ⟨by have := HJ1.out; have := HJ16.out; have := HJ30.out; have := HJ44.out; have := HJ64.out; first | omega | exact Nat.le_refl _⟩, ⟨Rgn.kb BK154.out⟩, ⟨Rgn.bq HB.out⟩⟩
                      ·
                       rw [if_neg c109] at H
                       exact absurd H (by simp)
                     ·
                      rw [if_neg c108] at H
                      have c108b0 : (((rdOf ByteArray.empty l0 4).size : Int) == 1) = false := beq_eq_false_iff_ne.mpr c108
                      have c108b1 : (((rdOf ByteArray.empty l0 4).size : Int) != 1) = true := bne_iff_ne.mpr c108
                      have H' := Aside0.mk H
                      clear H
                      have p179 : 0 ≤ (0 : Int) := (by omega)
                      have q179 : 0 < (l0.length : Int) := of_decide_eq_true (by first | (with_reducible assumption) | assumption)
                      obtain ⟨ad179, e179, hx179_0⟩ := Kd.at_string HR0.out 0 p179 q179
                      cases e179
                      have qi179 : (0 < l0.length) = True := eq_true (by omega)
                      (try rw [show ((0 : Int)).toNat = 0 from rfl] at hx179_0)
                      (try rw [Addr.add_zero'] at hx179_0)
                      replace hx179_0 := Rgn.hx HB.out hx179_0
                      replace p179 := eq_true p179
                      replace q179 := eq_true q179
                      have p180 : 0 ≤ (4 : Int) := (by omega)
                      have q180 : 4 < (l0.length : Int) := of_decide_eq_true (by first | (with_reducible assumption) | assumption)
                      obtain ⟨ad180, e180, hx180_0⟩ := Kd.at_string HR0.out 4 p180 q180
                      obtain rfl : ad179 = ad180 := (by injection e180)
                      (try simp only [show (4 : Int).toNat = 4 from rfl, Nat.reduceMul, Nat.reduceEqDiff, Go.Addr.add, ↓reduceIte] at hx180_0)
                      have qi180 : (4 < l0.length) = True := eq_true (by omega)
                      (try rw [show ((4 : Int)).toNat = 4 from rfl] at hx180_0)
                      replace hx180_0 := Rgn.hx HB.out hx180_0
                      replace p180 := eq_true p180
                      replace q180 := eq_true q180
                      go_wp2
                      go_meet
                      case rel => exact ⟨_, (false), (by first | rfl | (simp; done) | (simp [*]; done)), H', ⟨by have := HJ1.out; have := HJ16.out; have := HJ30.out; have := HJ44.out; have := HJ64.out; first | omega | exact Nat.le_refl _⟩, ⟨Rgn.kb BK154.out⟩, ⟨Rgn.bq HB.out⟩⟩
                    ·
                     rw [if_neg c107] at H
                     exact absurd H (by simp)
                   ·
                    rw [if_neg c106] at H
                    have c106b0 : ((l0.length : Int) == 5) = false := beq_eq_false_iff_ne.mpr c106
                    have c106b1 : ((l0.length : Int) != 5) = true := bne_iff_ne.mpr c106
                    have H' := Aside0.mk H
                    clear H
                    have p179 : 0 ≤ (0 : Int) := (by omega)
                    have q179 : 0 < (l0.length : Int) := of_decide_eq_true (by first | (with_reducible assumption) | assumption)
                    obtain ⟨ad179, e179, hx179_0⟩ := Kd.at_string HR0.out 0 p179 q179
                    cases e179
                    have qi179 : (0 < l0.length) = True := eq_true (by omega)
                    (try rw [show ((0 : Int)).toNat = 0 from rfl] at hx179_0)
                    (try rw [Addr.add_zero'] at hx179_0)
                    replace hx179_0 := Rgn.hx HB.out hx179_0
                    replace p179 := eq_true p179
                    replace q179 := eq_true q179
                    go_wp2
                    go_meet
                    case rel => exact ⟨_, (false), (by first | rfl | (simp; done) | (simp [*]; done)), H', ⟨by have := HJ1.out; have := HJ16.out; have := HJ30.out; have := HJ44.out; have := HJ64.out; first | omega | exact Nat.le_refl _⟩, ⟨Rgn.kb BK154.out⟩, ⟨Rgn.bq HB.out⟩⟩
                  ·
                   rw [if_neg c105] at H
                   have c105b0 : ((rdOf ByteArray.empty l0 0).toList == ([102, 105, 108, 108] : List UInt8)) = false := beq_eq_false_iff_ne.mpr c105
                   have c105b1 : ((rdOf ByteArray.empty l0 0).toList != ([102, 105, 108, 108] : List UInt8)) = true := bne_iff_ne.mpr c105
                   have H' := Aside0.mk H
                   clear H
                   have p179 : 0 ≤ (0 : Int) := (by omega)
                   have q179 : 0 < (l0.length : Int) := of_decide_eq_true (by first | (with_reducible assumption) | assumption)
                   obtain ⟨ad179, e179, hx179_0⟩ := Kd.at_string HR0.out 0 p179 q179
                   cases e179
                   have qi179 : (0 < l0.length) = True := eq_true (by omega)
                   (try rw [show ((0 : Int)).toNat = 0 from rfl] at hx179_0)
                   (try rw [Addr.add_zero'] at hx179_0)
                   replace hx179_0 := Rgn.hx HB.out hx179_0
                   replace p179 := eq_true p179
                   replace q179 := eq_true q179
                   go_wp2
                   go_meet
                   case rel => exact ⟨_, (false), (by first | rfl | (simp; done) | (simp [*]; done)), H', ⟨by have := HJ1.out; have := HJ16.out; have := HJ30.out; have := HJ44.out; have := HJ64.out; first | omega | exact Nat.le_refl _⟩, ⟨Rgn.kb BK154.out⟩, ⟨Rgn.bq HB.out⟩⟩
                 ·
                  rw [if_neg c104] at H
                  exact absurd H (by simp)
                case rest =>
                 clear HC103
                 try clear c6
                 try clear c68
                 obtain ⟨kq, x124_102, rfl, HA, HJ102, BK154, HB⟩ := hcut
                 cases kq with
                 | zero => exact absurd HA.out (by simp [spec_l14Long.j5])
                 | succ kj102 =>
                  have H := HA.out
                  clear HA
                  simp only [spec_l14Long.j5] at H
                  by_cases c113 : x124_102 = true
                  ·
                   subst c113
                   replace H := Rgn.ip H
                   by_cases c114 : 2 < (l0.length : Int)
                   ·
                    rw [if_pos c114] at H
                    have c114b0 : decide (2 < (l0.length : Int)) = true := decide_eq_true c114
                    have c114b1 : decide (2 < l0.length) = true := decide_eq_true (by omega)
                    clear c114
                    replace H := Option.bind_eq_some_iff.mp H
                    obtain ⟨⟨t184, t185⟩, A1150, H⟩ := H
                    replace H : (if 3 < (l0.length : Int) then ((spec_l14Number.f kj102 (rdOf ByteArray.empty l0 3)).bind fun bt187 => (if t185 = true then (if bt187.2 = true then (if bt187.1 < 0 then (some (0, (⟨#[]⟩ : ByteArray), (⟨#[]⟩ : ByteArray), 0, 0, 0, (⟨#[]⟩ : ByteArray), false)) else (if bt187.1 > 3000 then (some (0, (⟨#[]⟩ : ByteArray), (⟨#[]⟩ : ByteArray), 0, 0, 0, (⟨#[]⟩ : ByteArray), false)) else (if 1 < (l0.length : Int) then (if 4 < (l0.length : Int) then (if 0 < ((rdOf ByteArray.empty l0 4).size : Int) then ((spec_l14Letters.f kj102 bt187.1 (bt (rdOf ByteArray.empty l0 4) 0)).bind fun t191 => (some (6, rdOf ByteArray.empty l0 1, (⟨#[]⟩ : ByteArray), 0, t184, 0, t191, true))) else (none)) else (none)) else (none)))) else (some (0, (⟨#[]⟩ : ByteArray), (⟨#[]⟩ : ByteArray), 0, 0, 0, (⟨#[]⟩ : ByteArray), false))) else (some (0, (⟨#[]⟩ : ByteArray), (⟨#[]⟩ : ByteArray), 0, 0, 0, (⟨#[]⟩ : ByteArray), false)))) else (none)) = some (r1, r2, r3, r4, r5, r6, r7, r8) := H
                    have A115 := Aside0.mk A1150
                    clear A1150
                    by_cases c116 : 3 < (l0.length : Int)
                    ·
                     rw [if_pos c116] at H
                     have c116b0 : decide (3 < (l0.length : Int)) = true := decide_eq_true c116
                     have c116b1 : decide (3 < l0.length) = true := decide_eq_true (by omega)
                     clear c116
                     replace H := Option.bind_eq_some_iff.mp H
                     obtain ⟨⟨t187, t188⟩, A1170, H⟩ := H
                     replace H : (if t185 = true then (if t188 = true then (if t187 < 0 then (some (0, (⟨#[]⟩ : ByteArray), (⟨#[]⟩ : ByteArray), 0, 0, 0, (⟨#[]⟩ : ByteArray), false)) else (if t187 > 3000 then (some (0, (⟨#[]⟩ : ByteArray), (⟨#[]⟩ : ByteArray), 0, 0, 0, (⟨#[]⟩ : ByteArray), false)) else (if 1 < (l0.length : Int) then (if 4 < (l0.length : Int) then (if 0 < ((rdOf ByteArray.empty l0 4).size : Int) then ((spec_l14Letters.f kj102 t187 (bt (rdOf ByteArray.empty l0 4) 0)).bind fun t191 => (some (6, rdOf ByteArray.empty l0 1, (⟨#[]⟩ : ByteArray), 0, t184, 0, t191, true))) else (none)) else (none)) else (none)))) else (some (0, (⟨#[]⟩ : ByteArray), (⟨#[]⟩ : ByteArray), 0, 0, 0, (⟨#[]⟩ : ByteArray), false))) else (some (0, (⟨#[]⟩ : ByteArray), (⟨#[]⟩ : ByteArray), 0, 0, 0, (⟨#[]⟩ : ByteArray), false))) = some (r1, r2, r3, r4, r5, r6, r7, r8) := H
                     have A117 := Aside0.mk A1170
                     clear A1170
                     by_cases c118 : t185 = true
                     ·
                      subst c118
                      replace H := Rgn.ip H
                      by_cases c119 : t188 = true
                      ·
                       subst c119
                       replace H := Rgn.ip H
                       by_cases c120 : t187 < 0
                       ·
                        rw [if_pos c120] at H
                        have c120b0 : decide (t187 < 0) = true := decide_eq_true c120
                        clear c120
                        simp only [Option.some.injEq, Prod.mk.injEq] at H
                        obtain ⟨rfl, rfl, rfl, rfl, rfl, rfl, rfl, rfl⟩ := H
                        have p183 : 0 ≤ (2 : Int) := (by omega)
                        have q183 : 2 < (l0.length : Int) := of_decide_eq_true (by first | (with_reducible assumption) | assumption)
                        obtain ⟨ad183, e183, hx183_0⟩ := Kd.at_string HR0.out 2 p183 q183
                        cases e183
                        (try simp only [show (2 : Int).toNat = 2 from rfl, Nat.reduceMul, Nat.reduceEqDiff, Go.Addr.add, ↓reduceIte] at hx183_0)
                        have qi183 : (2 < l0.length) = True := eq_true (by omega)
                        (try rw [show ((2 : Int)).toNat = 2 from rfl] at hx183_0)
                        replace hx183_0 := Rgn.hx HB.out hx183_0
                        replace p183 := eq_true p183
                        replace q183 := eq_true q183
                        go_wp2_with (first | ((with_reducible refine gate_callee (f := 60) rfl ?_); refine Rgn.gl (some 159) Tryd.func60 #[.string (rdOf ByteArray.empty l0 2)] ?_; (with_reducible refine (spec_l14Number.calls kj102 (rdOf ByteArray.empty l0 2) t184 true _ A115.out).mono ?_); rintro e w121 ⟨rfl, hb⟩; refine ⟨_, rfl, ?_⟩; replace BK154 := Aside0.mk (Rgn.bb BK154.out hb); replace HB := Aside0.mk (below_step (Rgn.bq HB.out) hb); (try clear hb); have p186 : 0 ≤ (3 : Int) := (by omega); have q186 : 3 < (l0.length : Int) := of_decide_eq_true (by first | (with_reducible assumption) | assumption); obtain ⟨ad186, e186, hx186_0⟩ := Kd.at_string HR0.out 3 p186 q186; obtain rfl : ad183 = ad186 := (by injection e186); (try simp only [show (3 : Int).toNat = 3 from rfl, Nat.reduceMul, Nat.reduceEqDiff, Go.Addr.add, ↓reduceIte] at hx186_0); have qi186 : (3 < l0.length) = True := eq_true (by omega); (try rw [show ((3 : Int)).toNat = 3 from rfl] at hx186_0); replace hx186_0 := Rgn.hx HB.out hx186_0; replace p186 := eq_true p186; replace q186 := eq_true q186) | ((with_reducible refine gate_callee (f := 60) rfl ?_); refine Rgn.gl (some 166) Tryd.func60 #[.string (rdOf ByteArray.empty l0 3)] ?_; (with_reducible refine (spec_l14Number.calls kj102 (rdOf ByteArray.empty l0 3) t187 true _ A117.out).mono ?_); rintro e w122 ⟨rfl, hb⟩; refine ⟨_, rfl, ?_⟩; replace BK154 := Aside0.mk (Rgn.bb BK154.out hb); replace HB := Aside0.mk (below_step (Rgn.bq HB.out) hb); (try clear hb); obtain ⟨hcz123_0, hcz123_1, hcz123_2, hcz123_3, hcz123_4, hcz123_5, hcz123_6, hfz123_0, hfz123_1, hfz123_2, hfz123_3, hfz123_4, hfz123_5, hfz123_6⟩ := Rgn.cf7 BK154.out))
                        refine bodyPost_ret (results_ct rfl _ _ gb154 24 _ (0, 0) _ rfl (by exact Rgn.put7 (Rgn.kf BK154.out)) Tryd.underlying24 rfl (by kernel_rfl)) rfl ?_
                        exact ⟨by first | rfl | (simp [errW_none, errW_some] <;> rfl) | (simp [*, errW_none, errW_some] <;> rfl), Rgn.bq HB.out⟩
                       ·
                        rw [if_neg c120] at H
                        have c120b0 : decide (t187 < 0) = false := decide_eq_false c120
                        clear c120
                        by_cases c124 : t187 > 3000
                        ·
                         rw [if_pos c124] at H
                         have c124b0 : decide (3000 < t187) = true := decide_eq_true c124
                         clear c124
                         simp only [Option.some.injEq, Prod.mk.injEq] at H
                         obtain ⟨rfl, rfl, rfl, rfl, rfl, rfl, rfl, rfl⟩ := H
                         have p183 : 0 ≤ (2 : Int) := (by omega)
                         have q183 : 2 < (l0.length : Int) := of_decide_eq_true (by first | (with_reducible assumption) | assumption)
                         obtain ⟨ad183, e183, hx183_0⟩ := Kd.at_string HR0.out 2 p183 q183
                         cases e183
                         (try simp only [show (2 : Int).toNat = 2 from rfl, Nat.reduceMul, Nat.reduceEqDiff, Go.Addr.add, ↓reduceIte] at hx183_0)
                         have qi183 : (2 < l0.length) = True := eq_true (by omega)
                         (try rw [show ((2 : Int)).toNat = 2 from rfl] at hx183_0)
                         replace hx183_0 := Rgn.hx HB.out hx183_0
                         replace p183 := eq_true p183
                         replace q183 := eq_true q183
                         go_wp2_with (first | ((with_reducible refine gate_callee (f := 60) rfl ?_); refine Rgn.gl (some 159) Tryd.func60 #[.string (rdOf ByteArray.empty l0 2)] ?_; (with_reducible refine (spec_l14Number.calls kj102 (rdOf ByteArray.empty l0 2) t184 true _ A115.out).mono ?_); rintro e w125 ⟨rfl, hb⟩; refine ⟨_, rfl, ?_⟩; replace BK154 := Aside0.mk (Rgn.bb BK154.out hb); replace HB := Aside0.mk (below_step (Rgn.bq HB.out) hb); (try clear hb); have p186 : 0 ≤ (3 : Int) := (by omega); have q186 : 3 < (l0.length : Int) := of_decide_eq_true (by first | (with_reducible assumption) | assumption); obtain ⟨ad186, e186, hx186_0⟩ := Kd.at_string HR0.out 3 p186 q186; obtain rfl : ad183 = ad186 := (by injection e186); (try simp only [show (3 : Int).toNat = 3 from rfl, Nat.reduceMul, Nat.reduceEqDiff, Go.Addr.add, ↓reduceIte] at hx186_0); have qi186 : (3 < l0.length) = True := eq_true (by omega); (try rw [show ((3 : Int)).toNat = 3 from rfl] at hx186_0); replace hx186_0 := Rgn.hx HB.out hx186_0; replace p186 := eq_true p186; replace q186 := eq_true q186) | ((with_reducible refine gate_callee (f := 60) rfl ?_); refine Rgn.gl (some 166) Tryd.func60 #[.string (rdOf ByteArray.empty l0 3)] ?_; (with_reducible refine (spec_l14Number.calls kj102 (rdOf ByteArray.empty l0 3) t187 true _ A117.out).mono ?_); rintro e w126 ⟨rfl, hb⟩; refine ⟨_, rfl, ?_⟩; replace BK154 := Aside0.mk (Rgn.bb BK154.out hb); replace HB := Aside0.mk (below_step (Rgn.bq HB.out) hb); (try clear hb); obtain ⟨hcz127_0, hcz127_1, hcz127_2, hcz127_3, hcz127_4, hcz127_5, hcz127_6, hfz127_0, hfz127_1, hfz127_2, hfz127_3, hfz127_4, hfz127_5, hfz127_6⟩ := Rgn.cf7 BK154.out))
                         refine bodyPost_ret (results_ct rfl _ _ gb154 24 _ (0, 0) _ rfl (by exact Rgn.put7 (Rgn.kf BK154.out)) Tryd.underlying24 rfl (by kernel_rfl)) rfl ?_
                         exact ⟨by first | rfl | (simp [errW_none, errW_some] <;> rfl) | (simp [*, errW_none, errW_some] <;> rfl), Rgn.bq HB.out⟩
                        ·
                         rw [if_neg c124] at H
                         have c124b0 : decide (3000 < t187) = false := decide_eq_false c124
                         clear c124
                         by_cases c128 : 1 < (l0.length : Int)
                         ·
                          rw [if_pos c128] at H
                          have c128b0 : decide (1 < (l0.length : Int)) = true := decide_eq_true c128
                          have c128b1 : decide (1 < l0.length) = true := decide_eq_true (by omega)
                          clear c128
                          by_cases c129 : 4 < (l0.length : Int)
                          ·
                           rw [if_pos c129] at H
                           have c129b0 : decide (4 < (l0.length : Int)) = true := decide_eq_true c129
                           have c129b1 : decide (4 < l0.length) = true := decide_eq_true (by omega)
                           clear c129
                           by_cases c130 : 0 < ((rdOf ByteArray.empty l0 4).size : Int)
                           ·
                            rw [if_pos c130] at H
                            have c130b0 : decide (0 < ((rdOf ByteArray.empty l0 4).size : Int)) = true := decide_eq_true c130
                            have c130b1 : decide (0 < (rdOf ByteArray.empty l0 4).size) = true := decide_eq_true (by omega)
                            clear c130
                            replace H := Option.bind_eq_some_iff.mp H
                            obtain ⟨t191, A1320, H⟩ := H
                            replace H : (some (6, rdOf ByteArray.empty l0 1, (⟨#[]⟩ : ByteArray), 0, t184, 0, t191, true)) = some (r1, r2, r3, r4, r5, r6, r7, r8) := H
                            have A132 := Aside0.mk A1320
                            clear A1320
                            simp only [Option.some.injEq, Prod.mk.injEq] at H
                            obtain ⟨rfl, rfl, rfl, rfl, rfl, rfl, rfl, rfl⟩ := H
                            have p183 : 0 ≤ (2 : Int) := (by omega)
                            have q183 : 2 < (l0.length : Int) := of_decide_eq_true (by first | (with_reducible assumption) | assumption)
                            obtain ⟨ad183, e183, hx183_0⟩ := Kd.at_string HR0.out 2 p183 q183
                            cases e183
                            (try simp only [show (2 : Int).toNat = 2 from rfl, Nat.reduceMul, Nat.reduceEqDiff, Go.Addr.add, ↓reduceIte] at hx183_0)
                            have qi183 : (2 < l0.length) = True := eq_true (by omega)
                            (try rw [show ((2 : Int)).toNat = 2 from rfl] at hx183_0)
                            replace hx183_0 := Rgn.hx HB.out hx183_0
                            replace p183 := eq_true p183
                            replace q183 := eq_true q183
                            try go_wp2_with (first | ((with_reducible refine gate_callee (f := 60) rfl ?_); refine Rgn.gl (some 159) Tryd.func60 #[.string (rdOf ByteArray.empty l0 2)] ?_; (with_reducible refine (spec_l14Number.calls kj102 (rdOf ByteArray.empty l0 2) t184 true _ A115.out).mono ?_); rintro e w133 ⟨rfl, hb⟩; refine ⟨_, rfl, ?_⟩; replace BK154 := Aside0.mk (Rgn.bb BK154.out hb); replace HB := Aside0.mk (below_step (Rgn.bq HB.out) hb); (try clear hb); have p186 : 0 ≤ (3 : Int) := (by omega); have q186 : 3 < (l0.length : Int) := of_decide_eq_true (by first | (with_reducible assumption) | assumption); obtain ⟨ad186, e186, hx186_0⟩ := Kd.at_string HR0.out 3 p186 q186; obtain rfl : ad183 = ad186 := (by injection e186); (try simp only [show (3 : Int).toNat = 3 from rfl, Nat.reduceMul, Nat.reduceEqDiff, Go.Addr.add, ↓reduceIte] at hx186_0); have qi186 : (3 < l0.length) = True := eq_true (by omega); (try rw [show ((3 : Int)).toNat = 3 from rfl] at hx186_0); replace hx186_0 := Rgn.hx HB.out hx186_0; replace p186 := eq_true p186; replace q186 := eq_true q186) | ((with_reducible refine gate_callee (f := 60) rfl ?_); refine Rgn.gl (some 166) Tryd.func60 #[.string (rdOf ByteArray.empty l0 3)] ?_; (with_reducible refine (spec_l14Number.calls kj102 (rdOf ByteArray.empty l0 3) t187 true _ A117.out).mono ?_); rintro e w134 ⟨rfl, hb⟩; refine ⟨_, rfl, ?_⟩; replace BK154 := Aside0.mk (Rgn.bb BK154.out hb); replace HB := Aside0.mk (below_step (Rgn.bq HB.out) hb); (try clear hb)))
                            replace BK154 := Aside0.mk (blk_drew BK154.out)
                            replace HB := Aside0.mk (below_drew1 HB.out)
                            have p189 : 0 ≤ (1 : Int) := (by omega)
                            have q189 : 1 < (l0.length : Int) := of_decide_eq_true (by first | (with_reducible assumption) | assumption)
                            obtain ⟨ad189, e189, hx189_0⟩ := Kd.at_string HR0.out 1 p189 q189
                            have hw189_0 := hx189_0
                            (try rw [show ((1 : Int)).toNat = 1 from rfl] at hw189_0)
                            (try rw [show 1 * 1 = 1 from rfl] at hw189_0)
                            (try simp only [Nat.reduceMul, Nat.reduceEqDiff, Go.Addr.add, ↓reduceIte] at hw189_0)
                            obtain rfl : ad183 = ad189 := (by injection e189)
                            (try simp only [show (1 : Int).toNat = 1 from rfl, Nat.reduceMul, Nat.reduceEqDiff, Go.Addr.add, ↓reduceIte] at hx189_0)
                            have qi189 : (1 < l0.length) = True := eq_true (by omega)
                            (try rw [show ((1 : Int)).toNat = 1 from rfl] at hx189_0)
                            replace hx189_0 := Rgn.hx HB.out hx189_0
                            replace p189 := eq_true p189
                            replace q189 := eq_true q189
                            have p190 : 0 ≤ (4 : Int) := (by omega)
                            have q190 : 4 < (l0.length : Int) := of_decide_eq_true (by first | (with_reducible assumption) | assumption)
                            obtain ⟨ad190, e190, hx190_0⟩ := Kd.at_string HR0.out 4 p190 q190
                            have hw190_0 := hx190_0
                            (try rw [show ((4 : Int)).toNat = 4 from rfl] at hw190_0)
                            (try rw [show 4 * 1 = 4 from rfl] at hw190_0)
                            (try simp only [Nat.reduceMul, Nat.reduceEqDiff, Go.Addr.add, ↓reduceIte] at hw190_0)
                            obtain rfl : ad183 = ad190 := (by injection e190)
                            (try simp only [show (4 : Int).toNat = 4 from rfl, Nat.reduceMul, Nat.reduceEqDiff, Go.Addr.add, ↓reduceIte] at hx190_0)
                            have qi190 : (4 < l0.length) = True := eq_true (by omega)
                            (try rw [show ((4 : Int)).toNat = 4 from rfl] at hx190_0)
                            replace hx190_0 := Rgn.hx HB.out hx190_0
                            replace p190 := eq_true p190
                            replace q190 := eq_true q190
                            have p131 : 0 ≤ (0 : Int) := (by omega)
                            have q131 : 0 < (rdOf ByteArray.empty l0 4).size := (by have : (0 : Int) < ((rdOf ByteArray.empty l0 4).size : Int) := of_decide_eq_true (by first | (with_reducible assumption) | assumption); omega)
                            have hx131 : ∀ h : 0 < (rdOf ByteArray.empty l0 4).size, (((rdOf ByteArray.empty l0 4)[0]'h).toNat : Int) = bt (rdOf ByteArray.empty l0 4) 0 := bt_at (rdOf ByteArray.empty l0 4) 0
                            clear p131
                            have qi131 : (0 < ((rdOf ByteArray.empty l0 4).size : Int)) = True := eq_true (of_decide_eq_true (by first | (with_reducible assumption) | assumption))
                            replace q131 := eq_true q131
                            refine start_ (n := 13) (S := fun w' => w'.cell? ⟨ad183.block, ad183.off + 1, none⟩ = some (.string (rdOf ByteArray.empty l0 1)) ∧ w'.cell? ⟨ad183.block, ad183.off + 4, none⟩ = some (.string (rdOf ByteArray.empty l0 4))) (ds := []) #[false, false, false, false, false, false, false, false, false, false, false, false, false] (by kernel_rfl) rfl rfl ⟨((HB.out.cell (World.block_lt_of_cell? w _ hw189_0)).trans hw189_0), ((HB.out.cell (World.block_lt_of_cell? w _ hw190_0)).trans hw190_0)⟩ (fun hHeld => ?_); refine with_tabW spec_l14Long.tab19 spec_l14Long.bits19 (fun HT_ HW_ => ?_)
                            generalize w134.drew = w135 at BK154 HB hx189_0 hx190_0 hHeld ⊢
                            refine Rgn.pu HT_.out 0 184 ?_
                            refine Rgn.pu HT_.out 1 185 ?_
                            refine Rgn.pu HT_.out 3 187 ?_
                            refine Rgn.pu HT_.out 4 188 ?_
                            refine Rgn.pu HT_.out 5 189 ?_
                            refine Rgn.pu HT_.out 6 190 ?_
                            refine Rgn.tk HT_.out HW_.out 2 186 hHeld ?_
                            refine Rgn.tk HT_.out HW_.out 7 191 hHeld ?_
                            refine Rgn.tk HT_.out HW_.out 8 192 hHeld ?_
                            refine one_ (i := 9) (N := some 193) #[true, true, true, true, true, true, true, true, true, true, false, false, false] rfl rfl (one_of HT_.out (by kernel_rfl)) (by decide) (fun K hK => ?_)
                            refine Rgn.gs Tryd.func62 #[.int .i64 t187, .int .u8 (bt (rdOf ByteArray.empty l0 4) 0)] ?_
                            with_reducible refine (spec_l14Letters.calls kj102 t187 (bt (rdOf ByteArray.empty l0 4) 0) t191 _ A132.out).mono ?_
                            rintro e w136 ⟨rfl, hb⟩
                            refine ⟨_, rfl, ?_⟩
                            replace BK154 := Aside0.mk (Rgn.bb BK154.out hb)
                            replace HB := Aside0.mk (below_step (Rgn.bq HB.out) hb)
                            (try clear hb)
                            skip
                            skip
                            skip
                            refine hK.out _ _ ⟨((HB.out.cell (World.block_lt_of_cell? w _ hw189_0)).trans hw189_0), ((HB.out.cell (World.block_lt_of_cell? w _ hw190_0)).trans hw190_0)⟩ (fun hHeld => ?_)
                            clear hK K
                            refine norm_ (a' := ?_) ?_ ?_
                            rotate_left
                            ·
                             show Act.put _ (some 193) _ = _
                             simp only [Act.put, List.setIfInBounds_toArray, List.set_cons_zero, List.set_cons_succ, i64_w, i32_w]
                             rfl
                            refine Rgn.pu HT_.out 10 194 ?_
                            refine one_ (i := 11) (N := none) #[true, true, true, true, true, true, true, true, true, true, true, true, false] rfl rfl (one_of HT_.out (by kernel_rfl)) (by decide) (fun K hK => ?_)
                            obtain ⟨hs137, hs138, hs139, hs140, hs141, hs142, hs143, hfs137, hfs138, hfs139, hfs140, hfs141, hfs142, hfs143⟩ := Rgn.cf7 BK154.out
                            refine skip_ (w1 := ?_) (by rfl) rfl ?_ ?_
                            rotate_left
                            ·
                             go_simp
                             rfl
                            refine hK.out _ _ ⟨(Rgn.far7 (Rgn.nb hw189_0 GW154.out) hHeld.1), (Rgn.far7 (Rgn.nb hw190_0 GW154.out) hHeld.2)⟩ (fun hHeld => ?_)
                            clear hK K
                            refine Rgn.pu HT_.out 12 3 ?_
                            refine done_ (done_of HT_.out (by kernel_rfl)) ?_
                            try go_wp2
                            refine bodyPost_ret (results_ct rfl _ _ gb154 24 _ (0, 0) _ rfl (by exact Rgn.put7 (Rgn.kf BK154.out)) Tryd.underlying24 rfl (by kernel_rfl)) rfl ?_
                            exact ⟨by first | rfl | (simp [errW_none, errW_some] <;> rfl) | (simp [*, errW_none, errW_some] <;> rfl), Rgn.bq HB.out⟩
                           ·
                            rw [if_neg c130] at H
                            exact absurd H (by simp)
                          ·
                           rw [if_neg c129] at H
                           exact absurd H (by simp)
                         ·
                          rw [if_neg c128] at H
                          exact absurd H (by simp)
                      ·
                       replace c119 := Bool.eq_false_iff.mpr c119
                       subst c119
                       replace H := Rgn.im H
                       simp only [Option.some.injEq, Prod.mk.injEq] at H
                       obtain ⟨rfl, rfl, rfl, rfl, rfl, rfl, rfl, rfl⟩ := H
                       have p183 : 0 ≤ (2 : Int) := (by omega)
                       have q183 : 2 < (l0.length : Int) := of_decide_eq_true (by first | (with_reducible assumption) | assumption)
                       obtain ⟨ad183, e183, hx183_0⟩ := Kd.at_string HR0.out 2 p183 q183
                       cases e183
                       (try simp only [show (2 : Int).toNat = 2 from rfl, Nat.reduceMul, Nat.reduceEqDiff, Go.Addr.add, ↓reduceIte] at hx183_0)
                       have qi183 : (2 < l0.length) = True := eq_true (by omega)
                       (try rw [show ((2 : Int)).toNat = 2 from rfl] at hx183_0)
                       replace hx183_0 := Rgn.hx HB.out hx183_0
                       replace p183 := eq_true p183
                       replace q183 := eq_true q183
                       go_wp2_with (first | ((with_reducible refine gate_callee (f := 60) rfl ?_); refine Rgn.gl (some 159) Tryd.func60 #[.string (rdOf ByteArray.empty l0 2)] ?_; (with_reducible refine (spec_l14Number.calls kj102 (rdOf ByteArray.empty l0 2) t184 true _ A115.out).mono ?_); rintro e w144 ⟨rfl, hb⟩; refine ⟨_, rfl, ?_⟩; replace BK154 := Aside0.mk (Rgn.bb BK154.out hb); replace HB := Aside0.mk (below_step (Rgn.bq HB.out) hb); (try clear hb); have p186 : 0 ≤ (3 : Int) := (by omega); have q186 : 3 < (l0.length : Int) := of_decide_eq_true (by first | (with_reducible assumption) | assumption); obtain ⟨ad186, e186, hx186_0⟩ := Kd.at_string HR0.out 3 p186 q186; obtain rfl : ad183 = ad186 := (by injection e186); (try simp only [show (3 : Int).toNat = 3 from rfl, Nat.reduceMul, Nat.reduceEqDiff, Go.Addr.add, ↓reduceIte] at hx186_0); have qi186 : (3 < l0.length) = True := eq_true (by omega); (try rw [show ((3 : Int)).toNat = 3 from rfl] at hx186_0); replace hx186_0 := Rgn.hx HB.out hx186_0; replace p186 := eq_true p186; replace q186 := eq_true q186) | ((with_reducible refine gate_callee (f := 60) rfl ?_); refine Rgn.gl (some 166) Tryd.func60 #[.string (rdOf ByteArray.empty l0 3)] ?_; (with_reducible refine (spec_l14Number.calls kj102 (rdOf ByteArray.empty l0 3) t187 false _ A117.out).mono ?_); rintro e w145 ⟨rfl, hb⟩; refine ⟨_, rfl, ?_⟩; replace BK154 := Aside0.mk (Rgn.bb BK154.out hb); replace HB := Aside0.mk (below_step (Rgn.bq HB.out) hb); (try clear hb); obtain ⟨hcz146_0, hcz146_1, hcz146_2, hcz146_3, hcz146_4, hcz146_5, hcz146_6, hfz146_0, hfz146_1, hfz146_2, hfz146_3, hfz146_4, hfz146_5, hfz146_6⟩ := Rgn.cf7 BK154.out))
                       refine bodyPost_ret (results_ct rfl _ _ gb154 24 _ (0, 0) _ rfl (by exact Rgn.put7 (Rgn.kf BK154.out)) Tryd.underlying24 rfl (by kernel_rfl)) rfl ?_
                       exact ⟨by first | rfl | (simp [errW_none, errW_some] <;> rfl) | (simp [*, errW_none, errW_some] <;> rfl), Rgn.bq HB.out⟩
                     ·
                      replace c118 := Bool.eq_false_iff.mpr c118
                      subst c118
                      replace H := Rgn.im H
                      simp only [Option.some.injEq, Prod.mk.injEq] at H
                      obtain ⟨rfl, rfl, rfl, rfl, rfl, rfl, rfl, rfl⟩ := H
                      have p183 : 0 ≤ (2 : Int) := (by omega)
                      have q183 : 2 < (l0.length : Int) := of_decide_eq_true (by first | (with_reducible assumption) | assumption)
                      obtain ⟨ad183, e183, hx183_0⟩ := Kd.at_string HR0.out 2 p183 q183
                      cases e183
                      (try simp only [show (2 : Int).toNat = 2 from rfl, Nat.reduceMul, Nat.reduceEqDiff, Go.Addr.add, ↓reduceIte] at hx183_0)
                      have qi183 : (2 < l0.length) = True := eq_true (by omega)
                      (try rw [show ((2 : Int)).toNat = 2 from rfl] at hx183_0)
                      replace hx183_0 := Rgn.hx HB.out hx183_0
                      replace p183 := eq_true p183
                      replace q183 := eq_true q183
                      go_wp2_with (first | ((with_reducible refine gate_callee (f := 60) rfl ?_); refine Rgn.gl (some 159) Tryd.func60 #[.string (rdOf ByteArray.empty l0 2)] ?_; (with_reducible refine (spec_l14Number.calls kj102 (rdOf ByteArray.empty l0 2) t184 false _ A115.out).mono ?_); rintro e w147 ⟨rfl, hb⟩; refine ⟨_, rfl, ?_⟩; replace BK154 := Aside0.mk (Rgn.bb BK154.out hb); replace HB := Aside0.mk (below_step (Rgn.bq HB.out) hb); (try clear hb); have p186 : 0 ≤ (3 : Int) := (by omega); have q186 : 3 < (l0.length : Int) := of_decide_eq_true (by first | (with_reducible assumption) | assumption); obtain ⟨ad186, e186, hx186_0⟩ := Kd.at_string HR0.out 3 p186 q186; obtain rfl : ad183 = ad186 := (by injection e186); (try simp only [show (3 : Int).toNat = 3 from rfl, Nat.reduceMul, Nat.reduceEqDiff, Go.Addr.add, ↓reduceIte] at hx186_0); have qi186 : (3 < l0.length) = True := eq_true (by omega); (try rw [show ((3 : Int)).toNat = 3 from rfl] at hx186_0); replace hx186_0 := Rgn.hx HB.out hx186_0; replace p186 := eq_true p186; replace q186 := eq_true q186) | ((with_reducible refine gate_callee (f := 60) rfl ?_); refine Rgn.gl (some 166) Tryd.func60 #[.string (rdOf ByteArray.empty l0 3)] ?_; (with_reducible refine (spec_l14Number.calls kj102 (rdOf ByteArray.empty l0 3) t187 t188 _ A117.out).mono ?_); rintro e w148 ⟨rfl, hb⟩; refine ⟨_, rfl, ?_⟩; replace BK154 := Aside0.mk (Rgn.bb BK154.out hb); replace HB := Aside0.mk (below_step (Rgn.bq HB.out) hb); (try clear hb); obtain ⟨hcz149_0, hcz149_1, hcz149_2, hcz149_3, hcz149_4, hcz149_5, hcz149_6, hfz149_0, hfz149_1, hfz149_2, hfz149_3, hfz149_4, hfz149_5, hfz149_6⟩ := Rgn.cf7 BK154.out))
                      refine bodyPost_ret (results_ct rfl _ _ gb154 24 _ (0, 0) _ rfl (by exact Rgn.put7 (Rgn.kf BK154.out)) Tryd.underlying24 rfl (by kernel_rfl)) rfl ?_
                      exact ⟨by first | rfl | (simp [errW_none, errW_some] <;> rfl) | (simp [*, errW_none, errW_some] <;> rfl), Rgn.bq HB.out⟩
                    ·
                     rw [if_neg c116] at H
                     exact absurd H (by simp)
                   ·
                    rw [if_neg c114] at H
                    exact absurd H (by simp)
                  ·
                   replace c113 := Bool.eq_false_iff.mpr c113
                   subst c113
                   replace H := Rgn.im H
                   have HC150 := Aside0.mk H
                   clear H
                   go_upto_region 20 with (fail)
                   go_cut [195] from 195 to 195 (fun v195 wc => ∃ (kq : Nat) (x195_149 : Bool), v195 = .bool x195_149 ∧ Aside0 (spec_l14Long.j6 kq l0 x195_149 = some (r1, r2, r3, r4, r5, r6, r7, r8)) ∧ Aside0 (kq ≤ kj102) ∧ Aside0 (wc.heap[gb154]? = some (.cells #[.int .i64 0, .string (⟨#[]⟩ : ByteArray), .string (⟨#[]⟩ : ByteArray), .int .i64 0, .int .i64 0, .int .i64 0, .string (⟨#[]⟩ : ByteArray)] 24 (0, 0))) ∧ Aside0 (Below w.heap.size w wc))
                   case first =>
                    have H := HC150.out
                    clear HC150
                    by_cases c151 : 0 < (l0.length : Int)
                    ·
                     rw [if_pos c151] at H
                     have c151b0 : decide (0 < (l0.length : Int)) = true := decide_eq_true c151
                     have c151b1 : decide (0 < l0.length) = true := decide_eq_true (by omega)
                     clear c151
                     (first | rw [c151b0] | (simp only [i64_w, i32_w]; rw [c151b0]) | skip)
                     by_cases c152 : (rdOf ByteArray.empty l0 0).toList = ([116, 114, 117, 110, 99] : List UInt8)
                     ·
                      rw [if_pos c152] at H
                      have c152b0 : ((rdOf ByteArray.empty l0 0).toList == ([116, 114, 117, 110, 99] : List UInt8)) = true := beq_iff_eq.mpr c152
                      have c152b1 : ((rdOf ByteArray.empty l0 0).toList != ([116, 114, 117, 110, 99] : List UInt8)) = false := bne_eq_false_iff_eq.mpr c152
                      clear c152
                      have H' := Aside0.mk H
                      clear H
                      have p192 : 0 ≤ (0 : Int) := (by omega)
                      have q192 : 0 < (l0.length : Int) := of_decide_eq_true (by first | (with_reducible assumption) | assumption)
                      obtain ⟨ad192, e192, hx192_0⟩ := Kd.at_string HR0.out 0 p192 q192
                      cases e192
                      have qi192 : (0 < l0.length) = True := eq_true (by omega)
                      (try rw [show ((0 : Int)).toNat = 0 from rfl] at hx192_0)
                      (try rw [Addr.add_zero'] at hx192_0)
                      replace hx192_0 := Rgn.hx HB.out hx192_0
                      replace p192 := eq_true p192
                      replace q192 := eq_true q192
                      go_wp2
                      go_meet
                      case rel => exact ⟨_, (((l0.length : Int) == 3)), (by first | rfl | (simp; done) | (simp [*]; done)), H', ⟨by have := HJ1.out; have := HJ16.out; have := HJ30.out; have := HJ44.out; have := HJ64.out; have := HJ102.out; first | omega | exact Nat.le_refl _⟩, ⟨Rgn.kb BK154.out⟩, ⟨Rgn.bq HB.out⟩⟩
                     ·
                      rw [if_neg c152] at H
                      have c152b0 : ((rdOf ByteArray.empty l0 0).toList == ([116, 114, 117, 110, 99] : List UInt8)) = false := beq_eq_false_iff_ne.mpr c152
                      have c152b1 : ((rdOf ByteArray.empty l0 0).toList != ([116, 114, 117, 110, 99] : List UInt8)) = true := bne_iff_ne.mpr c152
                      have H' := Aside0.mk H
                      clear H
                      have p192 : 0 ≤ (0 : Int) := (by omega)
                      have q192 : 0 < (l0.length : Int) := of_decide_eq_true (by first | (with_reducible assumption) | assumption)
                      obtain ⟨ad192, e192, hx192_0⟩ := Kd.at_string HR0.out 0 p192 q192
                      cases e192
                      have qi192 : (0 < l0.length) = True := eq_true (by omega)
                      (try rw [show ((0 : Int)).toNat = 0 from rfl] at hx192_0)
                      (try rw [Addr.add_zero'] at hx192_0)
                      replace hx192_0 := Rgn.hx HB.out hx192_0
                      replace p192 := eq_true p192
                      replace q192 := eq_true q192
                      go_wp2
                      go_meet
                      case rel => exact ⟨_, (false), (by first | rfl | (simp; done) | (simp [*]; done)), H', ⟨by have := HJ1.out; have := HJ16.out; have := HJ30.out; have := HJ44.out; have := HJ64.out; have := HJ102.out; first | omega | exact Nat.le_refl _⟩, ⟨Rgn.kb BK154.out⟩, ⟨Rgn.bq HB.out⟩⟩
                    ·
                     rw [if_neg c151] at H
                     exact absurd H (by simp)
                   case rest =>
                    clear HC150
                    try clear c6
                    try clear c68
                    try clear c113
                    obtain ⟨kq, x195_149, rfl, HA, HJ149, BK154, HB⟩ := hcut
                    cases kq with
                    | zero => exact absurd HA.out (by simp [spec_l14Long.j6])
                    | succ kj149 =>
                     have H := HA.out
                     clear HA
                     simp only [spec_l14Long.j6] at H
                     by_cases c153 : x195_149 = true
                     ·
                      subst c153
                      replace H := Rgn.ip H
                      by_cases c154 : 2 < (l0.length : Int)
                      ·
                       rw [if_pos c154] at H
                       have c154b0 : decide (2 < (l0.length : Int)) = true := decide_eq_true c154
                       have c154b1 : decide (2 < l0.length) = true := decide_eq_true (by omega)
                       clear c154
                       replace H := Option.bind_eq_some_iff.mp H
                       obtain ⟨⟨t194, t195⟩, A1550, H⟩ := H
                       replace H : (if 1 < (l0.length : Int) then (some (7, rdOf ByteArray.empty l0 1, (⟨#[]⟩ : ByteArray), 0, 0, t194, (⟨#[]⟩ : ByteArray), t195)) else (none)) = some (r1, r2, r3, r4, r5, r6, r7, r8) := H
                       have A155 := Aside0.mk A1550
                       clear A1550
                       by_cases c156 : 1 < (l0.length : Int)
                       ·
                        rw [if_pos c156] at H
                        have c156b0 : decide (1 < (l0.length : Int)) = true := decide_eq_true c156
                        have c156b1 : decide (1 < l0.length) = true := decide_eq_true (by omega)
                        clear c156
                        simp only [Option.some.injEq, Prod.mk.injEq] at H
                        obtain ⟨rfl, rfl, rfl, rfl, rfl, rfl, rfl, rfl⟩ := H
                        have p193 : 0 ≤ (2 : Int) := (by omega)
                        have q193 : 2 < (l0.length : Int) := of_decide_eq_true (by first | (with_reducible assumption) | assumption)
                        obtain ⟨ad193, e193, hx193_0⟩ := Kd.at_string HR0.out 2 p193 q193
                        cases e193
                        (try simp only [show (2 : Int).toNat = 2 from rfl, Nat.reduceMul, Nat.reduceEqDiff, Go.Addr.add, ↓reduceIte] at hx193_0)
                        have qi193 : (2 < l0.length) = True := eq_true (by omega)
                        (try rw [show ((2 : Int)).toNat = 2 from rfl] at hx193_0)
                        replace hx193_0 := Rgn.hx HB.out hx193_0
                        replace p193 := eq_true p193
                        replace q193 := eq_true q193
                        go_wp2_with (first | ((with_reducible refine gate_callee (f := 60) rfl ?_); refine Rgn.gl (some 209) Tryd.func60 #[.string (rdOf ByteArray.empty l0 2)] ?_; (with_reducible refine (spec_l14Number.calls kj149 (rdOf ByteArray.empty l0 2) t194 t195 _ A155.out).mono ?_); rintro e w157 ⟨rfl, hb⟩; refine ⟨_, rfl, ?_⟩; replace BK154 := Aside0.mk (Rgn.bb BK154.out hb); replace HB := Aside0.mk (below_step (Rgn.bq HB.out) hb); (try clear hb); have p196 : 0 ≤ (1 : Int) := (by omega); have q196 : 1 < (l0.length : Int) := of_decide_eq_true (by first | (with_reducible assumption) | assumption); obtain ⟨ad196, e196, hx196_0⟩ := Kd.at_string HR0.out 1 p196 q196; obtain rfl : ad193 = ad196 := (by injection e196); (try simp only [show (1 : Int).toNat = 1 from rfl, Nat.reduceMul, Nat.reduceEqDiff, Go.Addr.add, ↓reduceIte] at hx196_0); have qi196 : (1 < l0.length) = True := eq_true (by omega); (try rw [show ((1 : Int)).toNat = 1 from rfl] at hx196_0); replace hx196_0 := Rgn.hx HB.out hx196_0; replace p196 := eq_true p196; replace q196 := eq_true q196; obtain ⟨hcz158_0, hcz158_1, hcz158_2, hcz158_3, hcz158_4, hcz158_5, hcz158_6, hfz158_0, hfz158_1, hfz158_2, hfz158_3, hfz158_4, hfz158_5, hfz158_6⟩ := Rgn.cf7 BK154.out))
                        refine bodyPost_ret (results_ct rfl _ _ gb154 24 _ (0, 0) _ rfl (by exact Rgn.put7 (Rgn.kf BK154.out)) Tryd.underlying24 rfl (by kernel_rfl)) rfl ?_
                        exact ⟨by first | rfl | (simp [errW_none, errW_some] <;> rfl) | (simp [*, errW_none, errW_some] <;> rfl), Rgn.bq HB.out⟩
                       ·
                        rw [if_neg c156] at H
                        exact absurd H (by simp)
                      ·
                       rw [if_neg c154] at H
                       exact absurd H (by simp)
                     ·
                      replace c153 := Bool.eq_false_iff.mpr c153
                      subst c153
                      replace H := Rgn.im H
                      have HC159 := Aside0.mk H
                      clear H
                      go_upto_region 23 with (fail)
                      go_cut [218] from 218 to 218 (fun v218 wc => ∃ (kq : Nat) (x218_158 : Bool), v218 = .bool x218_158 ∧ Aside0 (spec_l14Long.j7 kq l0 x218_158 = some (r1, r2, r3, r4, r5, r6, r7, r8)) ∧ Aside0 (kq ≤ kj149) ∧ Aside0 (wc.heap[gb154]? = some (.cells #[.int .i64 0, .string (⟨#[]⟩ : ByteArray), .string (⟨#[]⟩ : ByteArray), .int .i64 0, .int .i64 0, .int .i64 0, .string (⟨#[]⟩ : ByteArray)] 24 (0, 0))) ∧ Aside0 (Below w.heap.size w wc))
                      case first =>
                       have H := HC159.out
                       clear HC159
                       by_cases c160 : 0 < (l0.length : Int)
                       ·
                        rw [if_pos c160] at H
                        have c160b0 : decide (0 < (l0.length : Int)) = true := decide_eq_true c160
                        have c160b1 : decide (0 < l0.length) = true := decide_eq_true (by omega)
                        clear c160
                        (first | rw [c160b0] | (simp only [i64_w, i32_w]; rw [c160b0]) | skip)
                        by_cases c161 : (rdOf ByteArray.empty l0 0).toList = ([114, 101, 97, 100] : List UInt8)
                        ·
                         rw [if_pos c161] at H
                         have c161b0 : ((rdOf ByteArray.empty l0 0).toList == ([114, 101, 97, 100] : List UInt8)) = true := beq_iff_eq.mpr c161
                         have c161b1 : ((rdOf ByteArray.empty l0 0).toList != ([114, 101, 97, 100] : List UInt8)) = false := bne_eq_false_iff_eq.mpr c161
                         clear c161
                         have H' := Aside0.mk H
                         clear H
                         have p197 : 0 ≤ (0 : Int) := (by omega)
                         have q197 : 0 < (l0.length : Int) := of_decide_eq_true (by first | (with_reducible assumption) | assumption)
                         obtain ⟨ad197, e197, hx197_0⟩ := Kd.at_string HR0.out 0 p197 q197
                         cases e197
                         have qi197 : (0 < l0.length) = True := eq_true (by omega)
                         (try rw [show ((0 : Int)).toNat = 0 from rfl] at hx197_0)
                         (try rw [Addr.add_zero'] at hx197_0)
                         replace hx197_0 := Rgn.hx HB.out hx197_0
                         replace p197 := eq_true p197
                         replace q197 := eq_true q197
                         go_wp2
                         go_meet
                         case rel => exact ⟨_, (((l0.length : Int) == 4)), (by first | rfl | (simp; done) | (simp [*]; done)), H', ⟨by have := HJ1.out; have := HJ16.out; have := HJ30.out; have := HJ44.out; have := HJ64.out; have := HJ102.out; have := HJ149.out; first | omega | exact Nat.le_refl _⟩, ⟨Rgn.kb BK154.out⟩, ⟨Rgn.bq HB.out⟩⟩
                        ·
                         rw [if_neg c161] at H
                         have c161b0 : ((rdOf ByteArray.empty l0 0).toList == ([114, 101, 97, 100] : List UInt8)) = false := beq_eq_false_iff_ne.mpr c161
                         have c161b1 : ((rdOf ByteArray.empty l0 0).toList != ([114, 101, 97, 100] : List UInt8)) = true := bne_iff_ne.mpr c161
                         have H' := Aside0.mk H
                         clear H
                         have p197 : 0 ≤ (0 : Int) := (by omega)
                         have q197 : 0 < (l0.length : Int) := of_decide_eq_true (by first | (with_reducible assumption) | assumption)
                         obtain ⟨ad197, e197, hx197_0⟩ := Kd.at_string HR0.out 0 p197 q197
                         cases e197
                         have qi197 : (0 < l0.length) = True := eq_true (by omega)
                         (try rw [show ((0 : Int)).toNat = 0 from rfl] at hx197_0)
                         (try rw [Addr.add_zero'] at hx197_0)
                         replace hx197_0 := Rgn.hx HB.out hx197_0
                         replace p197 := eq_true p197
                         replace q197 := eq_true q197
                         go_wp2
                         go_meet
                         case rel => exact ⟨_, (false), (by first | rfl | (simp; done) | (simp [*]; done)), H', ⟨by have := HJ1.out; have := HJ16.out; have := HJ30.out; have := HJ44.out; have := HJ64.out; have := HJ102.out; have := HJ149.out; first | omega | exact Nat.le_refl _⟩, ⟨Rgn.kb BK154.out⟩, ⟨Rgn.bq HB.out⟩⟩
                       ·
                        rw [if_neg c160] at H
                        exact absurd H (by simp)
                      case rest =>
                       clear HC159
                       try clear c6
                       try clear c68
                       try clear c113
                       try clear c153
                       obtain ⟨kq, x218_158, rfl, HA, HJ158, BK154, HB⟩ := hcut
                       cases kq with
                       | zero => exact absurd HA.out (by simp [spec_l14Long.j7])
                       | succ kj158 =>
                        have H := HA.out
                        clear HA
                        simp only [spec_l14Long.j7] at H
                        by_cases c162 : x218_158 = true
                        ·
                         subst c162
                         replace H := Rgn.ip H
                         by_cases c163 : 2 < (l0.length : Int)
                         ·
                          rw [if_pos c163] at H
                          have c163b0 : decide (2 < (l0.length : Int)) = true := decide_eq_true c163
                          have c163b1 : decide (2 < l0.length) = true := decide_eq_true (by omega)
                          clear c163
                          replace H := Option.bind_eq_some_iff.mp H
                          obtain ⟨⟨t199, t200⟩, A1640, H⟩ := H
                          replace H : (if 3 < (l0.length : Int) then ((spec_l14Number.f kj158 (rdOf ByteArray.empty l0 3)).bind fun bt202 => (if 1 < (l0.length : Int) then (if t200 = true then (some (17, rdOf ByteArray.empty l0 1, (⟨#[]⟩ : ByteArray), 0, t199, bt202.1, (⟨#[]⟩ : ByteArray), bt202.2)) else (some (17, rdOf ByteArray.empty l0 1, (⟨#[]⟩ : ByteArray), 0, t199, bt202.1, (⟨#[]⟩ : ByteArray), false))) else (none))) else (none)) = some (r1, r2, r3, r4, r5, r6, r7, r8) := H
                          have A164 := Aside0.mk A1640
                          clear A1640
                          by_cases c165 : 3 < (l0.length : Int)
                          ·
                           rw [if_pos c165] at H
                           have c165b0 : decide (3 < (l0.length : Int)) = true := decide_eq_true c165
                           have c165b1 : decide (3 < l0.length) = true := decide_eq_true (by omega)
                           clear c165
                           replace H := Option.bind_eq_some_iff.mp H
                           obtain ⟨⟨t202, t203⟩, A1660, H⟩ := H
                           replace H : (if 1 < (l0.length : Int) then (if t200 = true then (some (17, rdOf ByteArray.empty l0 1, (⟨#[]⟩ : ByteArray), 0, t199, t202, (⟨#[]⟩ : ByteArray), t203)) else (some (17, rdOf ByteArray.empty l0 1, (⟨#[]⟩ : ByteArray), 0, t199, t202, (⟨#[]⟩ : ByteArray), false))) else (none)) = some (r1, r2, r3, r4, r5, r6, r7, r8) := H
                           have A166 := Aside0.mk A1660
                           clear A1660
                           by_cases c167 : 1 < (l0.length : Int)
                           ·
                            rw [if_pos c167] at H
                            have c167b0 : decide (1 < (l0.length : Int)) = true := decide_eq_true c167
                            have c167b1 : decide (1 < l0.length) = true := decide_eq_true (by omega)
                            clear c167
                            by_cases c168 : t200 = true
                            ·
                             subst c168
                             replace H := Rgn.ip H
                             simp only [Option.some.injEq, Prod.mk.injEq] at H
                             obtain ⟨rfl, rfl, rfl, rfl, rfl, rfl, rfl, rfl⟩ := H
                             have p198 : 0 ≤ (2 : Int) := (by omega)
                             have q198 : 2 < (l0.length : Int) := of_decide_eq_true (by first | (with_reducible assumption) | assumption)
                             obtain ⟨ad198, e198, hx198_0⟩ := Kd.at_string HR0.out 2 p198 q198
                             cases e198
                             (try simp only [show (2 : Int).toNat = 2 from rfl, Nat.reduceMul, Nat.reduceEqDiff, Go.Addr.add, ↓reduceIte] at hx198_0)
                             have qi198 : (2 < l0.length) = True := eq_true (by omega)
                             (try rw [show ((2 : Int)).toNat = 2 from rfl] at hx198_0)
                             replace hx198_0 := Rgn.hx HB.out hx198_0
                             replace p198 := eq_true p198
                             replace q198 := eq_true q198
                             go_wp2_with (first | ((with_reducible refine gate_callee (f := 60) rfl ?_); refine Rgn.gl (some 232) Tryd.func60 #[.string (rdOf ByteArray.empty l0 2)] ?_; (with_reducible refine (spec_l14Number.calls kj158 (rdOf ByteArray.empty l0 2) t199 true _ A164.out).mono ?_); rintro e w169 ⟨rfl, hb⟩; refine ⟨_, rfl, ?_⟩; replace BK154 := Aside0.mk (Rgn.bb BK154.out hb); replace HB := Aside0.mk (below_step (Rgn.bq HB.out) hb); (try clear hb); have p201 : 0 ≤ (3 : Int) := (by omega); have q201 : 3 < (l0.length : Int) := of_decide_eq_true (by first | (with_reducible assumption) | assumption); obtain ⟨ad201, e201, hx201_0⟩ := Kd.at_string HR0.out 3 p201 q201; obtain rfl : ad198 = ad201 := (by injection e201); (try simp only [show (3 : Int).toNat = 3 from rfl, Nat.reduceMul, Nat.reduceEqDiff, Go.Addr.add, ↓reduceIte] at hx201_0); have qi201 : (3 < l0.length) = True := eq_true (by omega); (try rw [show ((3 : Int)).toNat = 3 from rfl] at hx201_0); replace hx201_0 := Rgn.hx HB.out hx201_0; replace p201 := eq_true p201; replace q201 := eq_true q201) | ((with_reducible refine gate_callee (f := 60) rfl ?_); refine Rgn.gl (some 239) Tryd.func60 #[.string (rdOf ByteArray.empty l0 3)] ?_; (with_reducible refine (spec_l14Number.calls kj158 (rdOf ByteArray.empty l0 3) t202 t203 _ A166.out).mono ?_); rintro e w170 ⟨rfl, hb⟩; refine ⟨_, rfl, ?_⟩; replace BK154 := Aside0.mk (Rgn.bb BK154.out hb); replace HB := Aside0.mk (below_step (Rgn.bq HB.out) hb); (try clear hb); have p204 : 0 ≤ (1 : Int) := (by omega); have q204 : 1 < (l0.length : Int) := of_decide_eq_true (by first | (with_reducible assumption) | assumption); obtain ⟨ad204, e204, hx204_0⟩ := Kd.at_string HR0.out 1 p204 q204; obtain rfl : ad198 = ad204 := (by injection e204); (try simp only [show (1 : Int).toNat = 1 from rfl, Nat.reduceMul, Nat.reduceEqDiff, Go.Addr.add, ↓reduceIte] at hx204_0); have qi204 : (1 < l0.length) = True := eq_true (by omega); (try rw [show ((1 : Int)).toNat = 1 from rfl] at hx204_0); replace hx204_0 := Rgn.hx HB.out hx204_0; replace p204 := eq_true p204; replace q204 := eq_true q204; obtain ⟨hcz171_0, hcz171_1, hcz171_2, hcz171_3, hcz171_4, hcz171_5, hcz171_6, hfz171_0, hfz171_1, hfz171_2, hfz171_3, hfz171_4, hfz171_5, hfz171_6⟩ := Rgn.cf7 BK154.out))
                             refine bodyPost_ret (results_ct rfl _ _ gb154 24 _ (0, 0) _ rfl (by exact Rgn.put7 (Rgn.kf BK154.out)) Tryd.underlying24 rfl (by kernel_rfl)) rfl ?_
                             exact ⟨by first | rfl | (simp [errW_none, errW_some] <;> rfl) | (simp [*, errW_none, errW_some] <;> rfl), Rgn.bq HB.out⟩
                            ·
                             replace c168 := Bool.eq_false_iff.mpr c168
                             subst c168
                             replace H := Rgn.im H
                             simp only [Option.some.injEq, Prod.mk.injEq] at H
                             obtain ⟨rfl, rfl, rfl, rfl, rfl, rfl, rfl, rfl⟩ := H
                             have p198 : 0 ≤ (2 : Int) := (by omega)
                             have q198 : 2 < (l0.length : Int) := of_decide_eq_true (by first | (with_reducible assumption) | assumption)
                             obtain ⟨ad198, e198, hx198_0⟩ := Kd.at_string HR0.out 2 p198 q198
                             cases e198
                             (try simp only [show (2 : Int).toNat = 2 from rfl, Nat.reduceMul, Nat.reduceEqDiff, Go.Addr.add, ↓reduceIte] at hx198_0)
                             have qi198 : (2 < l0.length) = True := eq_true (by omega)
                             (try rw [show ((2 : Int)).toNat = 2 from rfl] at hx198_0)
                             replace hx198_0 := Rgn.hx HB.out hx198_0
                             replace p198 := eq_true p198
                             replace q198 := eq_true q198
                             go_wp2_with (first | ((with_reducible refine gate_callee (f := 60) rfl ?_); refine Rgn.gl (some 232) Tryd.func60 #[.string (rdOf ByteArray.empty l0 2)] ?_; (with_reducible refine (spec_l14Number.calls kj158 (rdOf ByteArray.empty l0 2) t199 false _ A164.out).mono ?_); rintro e w172 ⟨rfl, hb⟩; refine ⟨_, rfl, ?_⟩; replace BK154 := Aside0.mk (Rgn.bb BK154.out hb); replace HB := Aside0.mk (below_step (Rgn.bq HB.out) hb); (try clear hb); have p201 : 0 ≤ (3 : Int) := (by omega); have q201 : 3 < (l0.length : Int) := of_decide_eq_true (by first | (with_reducible assumption) | assumption); obtain ⟨ad201, e201, hx201_0⟩ := Kd.at_string HR0.out 3 p201 q201; obtain rfl : ad198 = ad201 := (by injection e201); (try simp only [show (3 : Int).toNat = 3 from rfl, Nat.reduceMul, Nat.reduceEqDiff, Go.Addr.add, ↓reduceIte] at hx201_0); have qi201 : (3 < l0.length) = True := eq_true (by omega); (try rw [show ((3 : Int)).toNat = 3 from rfl] at hx201_0); replace hx201_0 := Rgn.hx HB.out hx201_0; replace p201 := eq_true p201; replace q201 := eq_true q201) | ((with_reducible refine gate_callee (f := 60) rfl ?_); refine Rgn.gl (some 239) Tryd.func60 #[.string (rdOf ByteArray.empty l0 3)] ?_; (with_reducible refine (spec_l14Number.calls kj158 (rdOf ByteArray.empty l0 3) t202 t203 _ A166.out).mono ?_); rintro e w173 ⟨rfl, hb⟩; refine ⟨_, rfl, ?_⟩; replace BK154 := Aside0.mk (Rgn.bb BK154.out hb); replace HB := Aside0.mk (below_step (Rgn.bq HB.out) hb); (try clear hb); have p204 : 0 ≤ (1 : Int) := (by omega); have q204 : 1 < (l0.length : Int) := of_decide_eq_true (by first | (with_reducible assumption) | assumption); obtain ⟨ad204, e204, hx204_0⟩ := Kd.at_string HR0.out 1 p204 q204; obtain rfl : ad198 = ad204 := (by injection e204); (try simp only [show (1 : Int).toNat = 1 from rfl, Nat.reduceMul, Nat.reduceEqDiff, Go.Addr.add, ↓reduceIte] at hx204_0); have qi204 : (1 < l0.length) = True := eq_true (by omega); (try rw [show ((1 : Int)).toNat = 1 from rfl] at hx204_0); replace hx204_0 := Rgn.hx HB.out hx204_0; replace p204 := eq_true p204; replace q204 := eq_true q204; obtain ⟨hcz174_0, hcz174_1, hcz174_2, hcz174_3, hcz174_4, hcz174_5, hcz174_6, hfz174_0, hfz174_1, hfz174_2, hfz174_3, hfz174_4, hfz174_5, hfz174_6⟩ := Rgn.cf7 BK154.out))
                             refine bodyPost_ret (results_ct rfl _ _ gb154 24 _ (0, 0) _ rfl (by exact Rgn.put7 (Rgn.kf BK154.out)) Tryd.underlying24 rfl (by kernel_rfl)) rfl ?_
                             exact ⟨by first | rfl | (simp [errW_none, errW_some] <;> rfl) | (simp [*, errW_none, errW_some] <;> rfl), Rgn.bq HB.out⟩
                           ·
                            rw [if_neg c167] at H
                            exact absurd H (by simp)
                          ·
                           rw [if_neg c165] at H
                           exact absurd H (by simp)
                         ·
                          rw [if_neg c163] at H
                          exact absurd H (by simp)
                        ·
                         replace c162 := Bool.eq_false_iff.mpr c162
                         subst c162
                         replace H := Rgn.im H
                         simp only [Option.some.injEq, Prod.mk.injEq] at H
                         obtain ⟨rfl, rfl, rfl, rfl, rfl, rfl, rfl, rfl⟩ := H
                         obtain ⟨hcz175_0, hcz175_1, hcz175_2, hcz175_3, hcz175_4, hcz175_5, hcz175_6, hfz175_0, hfz175_1, hfz175_2, hfz175_3, hfz175_4, hfz175_5, hfz175_6⟩ := Rgn.cf7 BK154.out
                         go_wp2
                         refine bodyPost_ret (results_ct rfl _ _ gb154 24 _ (0, 0) _ rfl (by exact Rgn.put7 (Rgn.kf BK154.out)) Tryd.underlying24 rfl (by kernel_rfl)) rfl ?_
                         exact ⟨by first | rfl | (simp [errW_none, errW_some] <;> rfl) | (simp [*, errW_none, errW_some] <;> rfl), Rgn.bq HB.out⟩

end Go.Proofs.YtkehfdadplpaeaaDoor.PFnExactParseLine
