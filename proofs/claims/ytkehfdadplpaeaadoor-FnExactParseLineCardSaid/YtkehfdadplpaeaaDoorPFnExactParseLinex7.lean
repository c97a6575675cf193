-- written by a program of this session (wip/src/print2.py)
import Derived.Test.YtkehfdadplpaeaaDoorPFnExactParseLinex0
import Derived.Test.YtkehfdadplpaeaaDoorPFnExactParseLinex2
import Derived.Test.YtkehfdadplpaeaaDoorPFnExactParseLinex3
import Derived.Test.YtkehfdadplpaeaaDoorPFnExactParseLinex5
import Derived.Test.YtkehfdadplpaeaaDoorPFnExactParseLinex6
namespace Go.Proofs.YtkehfdadplpaeaaDoor.PFnExactParseLine
open Go.RowKit Go.Proofs.YtkehfdadplpaeaaDoorW.PrintWords Go.Proofs.YtkehfdadplpaeaaDoorW.PrintLast Go.Proofs.YtkehfdadplpaeaaDoorW.PrintMore
attribute [local go_sem] max2_int min2_int max_two min_two max_three min_three max_four min_four   -- for this text's walks alone
set_option linter.unusedVariables false
set_option linter.unusedSimpArgs false

/-! ### spec_ParseLine: function 6 -/
mutual
def spec_ParseLine.l0 : Nat → List ByteArray → Int → Option (Int × Int × ByteArray × ByteArray × Int × Int × Int × ByteArray × List Int)
 | 0, _, _ => none
 | k + 1, x3, x4 => if x4 < (x3.length : Int) then (if 0 ≤ x4 then (if (rdOf ByteArray.empty x3 x4).toList = ([] : List UInt8) then (some (0, 0, (⟨#[]⟩ : ByteArray), (⟨#[]⟩ : ByteArray), 0, 0, 0, (⟨#[]⟩ : ByteArray), ([] : List Int))) else (spec_ParseLine.l0 k x3 (wrap64 (x4 + 1)))) else (none)) else (if (x3.length : Int) = 1 then (if 0 < (x3.length : Int) then (if (rdOf ByteArray.empty x3 0).toList = ([116, 114, 101, 101] : List UInt8) then (some (2, 0, (⟨#[]⟩ : ByteArray), (⟨#[]⟩ : ByteArray), 0, 0, 0, (⟨#[]⟩ : ByteArray), ([] : List Int))) else (if (rdOf ByteArray.empty x3 0).toList = ([99, 104, 101, 99, 107] : List UInt8) then (some (3, 0, (⟨#[]⟩ : ByteArray), (⟨#[]⟩ : ByteArray), 0, 0, 0, (⟨#[]⟩ : ByteArray), ([] : List Int))) else (if (rdOf ByteArray.empty x3 0).toList = ([109, 111, 117, 110, 116] : List UInt8) then (some (6, 0, (⟨#[]⟩ : ByteArray), (⟨#[]⟩ : ByteArray), 0, 0, 0, (⟨#[]⟩ : ByteArray), ([] : List Int))) else ((spec_l14Lone.f k (rdOf ByteArray.empty x3 0)).bind fun t238 => (if t238 > 0 then ((spec_l14Lone.f k (rdOf ByteArray.empty x3 0)).bind fun t240 => (some (1, t240, (⟨#[]⟩ : ByteArray), (⟨#[]⟩ : ByteArray), 0, 0, 0, (⟨#[]⟩ : ByteArray), ([] : List Int)))) else (spec_ParseLine.j1 k x3)))))) else (none)) else (spec_ParseLine.j1 k x3))
def spec_ParseLine.j1 : Nat → List ByteArray → Option (Int × Int × ByteArray × ByteArray × Int × Int × Int × ByteArray × List Int)
 | 0, _ => none
 | k + 1, x3 => if (x3.length : Int) = 2 then (if 0 < (x3.length : Int) then ((spec_l14Word.f (rdOf ByteArray.empty x3 0)).bind fun t242 => (spec_ParseLine.j2 k x3 (decide (t242 > 0)))) else (none)) else (spec_ParseLine.j2 k x3 false)
def spec_ParseLine.j2 : Nat → List ByteArray → Bool → Option (Int × Int × ByteArray × ByteArray × Int × Int × Int × ByteArray × List Int)
 | 0, _, _ => none
 | k + 1, x3, x65 => if x65 = true then (if 0 < (x3.length : Int) then ((spec_l14Word.f (rdOf ByteArray.empty x3 0)).bind fun t244 => (if 1 < (x3.length : Int) then (some (1, t244, rdOf ByteArray.empty x3 1, (⟨#[]⟩ : ByteArray), 0, 0, 0, (⟨#[]⟩ : ByteArray), ([] : List Int))) else (none))) else (none)) else (if 0 < (x3.length : Int) then (if (rdOf ByteArray.empty x3 0).toList = ([99, 114, 97, 115, 104] : List UInt8) then (spec_ParseLine.j3 k x3 true) else (spec_ParseLine.j3 k x3 ((rdOf ByteArray.empty x3 0).toList == ([97, 114, 109] : List UInt8)))) else (none))
def spec_ParseLine.j3 : Nat → List ByteArray → Bool → Option (Int × Int × ByteArray × ByteArray × Int × Int × Int × ByteArray × List Int)
 | 0, _, _ => none
 | k + 1, x3, x84 => if x84 = true then ((spec_l14Numbers.f k x3 1).bind fun bt248 => (if 0 < (x3.length : Int) then (if (rdOf ByteArray.empty x3 0).toList = ([99, 114, 97, 115, 104] : List UInt8) then (if bt248.2 = true then (spec_ParseLine.j4 k x3 bt248.1 bt248.2 (decide ((bt248.1.length : Int) ≤ 600))) else (spec_ParseLine.j4 k x3 bt248.1 bt248.2 false)) else (spec_ParseLine.j4 k x3 bt248.1 bt248.2 false)) else (none))) else ((spec_l14Long.f k x3).bind fun bt255 => (if bt255.2.2.2.2.2.2.2 = true then (some (1, bt255.1, bt255.2.1, bt255.2.2.1, bt255.2.2.2.1, bt255.2.2.2.2.1, bt255.2.2.2.2.2.1, bt255.2.2.2.2.2.2.1, ([] : List Int))) else ((spec_l14Handled.f k x3).bind fun bt264 => (if bt264.2.2.2.2.2.2.2 = true then (some (1, bt264.1, bt264.2.1, bt264.2.2.1, bt264.2.2.2.1, bt264.2.2.2.2.1, bt264.2.2.2.2.2.1, bt264.2.2.2.2.2.2.1, ([] : List Int))) else (some (0, 0, (⟨#[]⟩ : ByteArray), (⟨#[]⟩ : ByteArray), 0, 0, 0, (⟨#[]⟩ : ByteArray), ([] : List Int)))))))
def spec_ParseLine.j4 : Nat → List ByteArray → List Int → Bool → Bool → Option (Int × Int × ByteArray × ByteArray × Int × Int × Int × ByteArray × List Int)
 | 0, _, _, _, _ => none
 | k + 1, x3, x5, x6, x101 => if x101 = true then (some (5, 0, (⟨#[]⟩ : ByteArray), (⟨#[]⟩ : ByteArray), 0, 0, 0, (⟨#[]⟩ : ByteArray), x5)) else (if 0 < (x3.length : Int) then (if (rdOf ByteArray.empty x3 0).toList = ([97, 114, 109] : List UInt8) then (if x6 = true then (if (x5.length : Int) ≥ 1 then (if (x5.length : Int) ≤ 601 then (if 0 < (x5.length : Int) then (if (rd x5 0) ≥ 1 then (some (4, 0, (⟨#[]⟩ : ByteArray), (⟨#[]⟩ : ByteArray), 0, 0, 0, (⟨#[]⟩ : ByteArray), x5)) else (some (0, 0, (⟨#[]⟩ : ByteArray), (⟨#[]⟩ : ByteArray), 0, 0, 0, (⟨#[]⟩ : ByteArray), ([] : List Int)))) else (none)) else (some (0, 0, (⟨#[]⟩ : ByteArray), (⟨#[]⟩ : ByteArray), 0, 0, 0, (⟨#[]⟩ : ByteArray), ([] : List Int)))) else (some (0, 0, (⟨#[]⟩ : ByteArray), (⟨#[]⟩ : ByteArray), 0, 0, 0, (⟨#[]⟩ : ByteArray), ([] : List Int)))) else (some (0, 0, (⟨#[]⟩ : ByteArray), (⟨#[]⟩ : ByteArray), 0, 0, 0, (⟨#[]⟩ : ByteArray), ([] : List Int)))) else (some (0, 0, (⟨#[]⟩ : ByteArray), (⟨#[]⟩ : ByteArray), 0, 0, 0, (⟨#[]⟩ : ByteArray), ([] : List Int)))) else (none))
end
def spec_ParseLine.f (k : Nat) (l0 : List Int) : Option (Int × Int × ByteArray × ByteArray × Int × Int × Int × ByteArray × List Int) := if (l0.length : Int) > 65536 then (some (0, 0, (⟨#[]⟩ : ByteArray), (⟨#[]⟩ : ByteArray), 0, 0, 0, (⟨#[]⟩ : ByteArray), ([] : List Int))) else ((spec_l10Cut.f k (strOfNums l0) 32).bind fun t232 => (spec_ParseLine.l0 k t232 0))
def spec_ParseLine.T20 : Bool × List (List Nat × List Nat) := (true, [([], []), ([0], [0]), ([1], [1]), ([2], [2]), ([], []), ([4], [4]), ([5], [5]), ([3, 6], [3, 6]), ([7], [7]), ([8, 3, 0, 1, 2, 3, 4, 5, 6, 7, 8], [8])])
def spec_ParseLine.B20 : List Nat := [0, 1, 3, 7, 0, 16, 48, 127, 255, 511]
theorem spec_ParseLine.tab20 : rtab .any (opsOf Tryd.f6 20) = spec_ParseLine.T20 := by kernel_rfl
theorem spec_ParseLine.bits20 : waitsOk spec_ParseLine.T20.2 spec_ParseLine.B20 = true := by kernel_rfl
set_option maxHeartbeats 8000000 in
set_option maxRecDepth 100000 in
theorem spec_ParseLine.calls (k : Nat) (A0 : Option Addr) (c0 : Nat) (l0 : List Int) (r1 : Int) (r2 : Int) (r3 : ByteArray) (r4 : ByteArray) (r5 : Int) (r6 : Int) (r7 : Int) (r8 : ByteArray) (r9 : List Int) (w : World) (hr0 : Kd.C (Kd.int .u8) w A0 l0.length l0) (hc0 : l0.length ≤ c0) (h : spec_ParseLine.f k l0 = some (r1, r2, r3, r4, r5, r6, r7, r8, r9)) :
  Calls Tryd.prog 6 #[.slice A0 l0.length c0] w fun e w' => ∃ v8_ : Value, e = .returned (.agg #[.int .i64 r1, .int .i64 r2, .string r3, .string r4, .int .i64 r5, .int .i64 r6, .int .i64 r7, .string r8, v8_]) ∧ Kd.R (Kd.int .i64) 2 w' w.heap.size (fun _ => True) v8_ r9 ∧ Below w.heap.size w w' := by
 have hu27 := Tryd.underlying27
 have hu24 := Tryd.underlying24
 have HR0 := Aside0.mk hr0
 have HC0 := Aside0.mk hc0
 clear hr0 hc0
 have HB := Aside0.mk (Below.refl w.heap.size w)
 have H : (if (l0.length : Int) > 65536 then (some (0, 0, (⟨#[]⟩ : ByteArray), (⟨#[]⟩ : ByteArray), 0, 0, 0, (⟨#[]⟩ : ByteArray), ([] : List Int))) else ((spec_l10Cut.f k (strOfNums l0) 32).bind fun t232 => (spec_ParseLine.l0 k t232 0))) = some (r1, r2, r3, r4, r5, r6, r7, r8, r9) := h
 clear h
 by_cases c2 : (l0.length : Int) > 65536
 ·
  rw [if_pos c2] at H
  have c2b0 : decide (65536 < (l0.length : Int)) = true := decide_eq_true c2
  have c2b1 : decide (65536 < l0.length) = true := decide_eq_true (by omega)
  clear c2
  simp only [Option.some.injEq, Prod.mk.injEq] at H
  obtain ⟨rfl, rfl, rfl, rfl, rfl, rfl, rfl, rfl, rfl⟩ := H
  go_enter Tryd.func6, Tryd.ntmps6
  go_wp2_with (first | ((with_reducible refine gate_dst (N := 2) rfl ?_); (try (refine gate_guard (by rfl) ?_; dsimp only)); refine Rgn.bx 2 #[.int .i64 0, .int .i64 0, .string (⟨#[]⟩ : ByteArray), .string (⟨#[]⟩ : ByteArray), .int .i64 0, .int .i64 0, .int .i64 0, .string (⟨#[]⟩ : ByteArray), .slice none 0 0] 27 ?_; intro gb231 hg w3 hbox hb; have BK231 := Aside0.mk (hbox); have GW231 := Aside0.mk (Rgn.ge hg HB.out); have GE231 := Aside0.mk (Rgn.ge hg HB.out); replace HB := Aside0.mk (below_step (Rgn.bq HB.out) hb); clear hb hbox hg; obtain ⟨hcz4_0, hcz4_1, hcz4_2, hcz4_3, hcz4_4, hcz4_5, hcz4_6, hcz4_7, hcz4_8, hfz4_0, hfz4_1, hfz4_2, hfz4_3, hfz4_4, hfz4_5, hfz4_6, hfz4_7, hfz4_8⟩ := Rgn.cf9 BK231.out))
  refine bodyPost_ret (results_cell_row rfl _ _ gb231 27 _ (0, 0) _ rfl (by exact Rgn.put9 (Rgn.kf BK231.out)) Tryd.underlying27 rfl (by kernel_rfl)) rfl ?_
  exact ⟨_, by first | rfl | (simp [errW_none, errW_some] <;> rfl) | (simp [*, errW_none, errW_some] <;> rfl), by first | exact Kd.R_nil _ _ _ _ _ | exact Kd.N_nil _ _ _ _ _ | exact Kd.V_nil _ _ _ _ _ | exact Kd.Q_nil _ _ _ _ _ | exact Kd.S_nil _ _ _ _ _, Rgn.bq HB.out⟩
 ·
  rw [if_neg c2] at H
  have c2b0 : decide (65536 < (l0.length : Int)) = false := decide_eq_false c2
  have c2b1 : decide (65536 < l0.length) = false := decide_eq_false (by omega)
  clear c2
  replace H := Option.bind_eq_some_iff.mp H
  obtain ⟨t232, A50, H⟩ := H
  replace H : (spec_ParseLine.l0 k t232 0) = some (r1, r2, r3, r4, r5, r6, r7, r8, r9) := H
  have A5 := Aside0.mk A50
  clear A50
  have H' := Aside0.mk H
  clear H
  go_enter Tryd.func6, Tryd.ntmps6
  go_wp2_with (first | ((with_reducible refine gate_dst (N := 2) rfl ?_); (try (refine gate_guard (by rfl) ?_; dsimp only)); refine Rgn.bx 2 #[.int .i64 0, .int .i64 0, .string (⟨#[]⟩ : ByteArray), .string (⟨#[]⟩ : ByteArray), .int .i64 0, .int .i64 0, .int .i64 0, .string (⟨#[]⟩ : ByteArray), .slice none 0 0] 27 ?_; intro gb231 hg w6 hbox hb; have BK231 := Aside0.mk (hbox); have GW231 := Aside0.mk (Rgn.ge hg HB.out); have GE231 := Aside0.mk (Rgn.ge hg HB.out); replace HB := Aside0.mk (below_step (Rgn.bq HB.out) hb); clear hb hbox hg; have hcv7 := Kd.C_string (P := Tryd.prog) (A := A0) (c := c0) Tryd.underlying22 Tryd.underlying5 Tryd.underlying9 (Kd.C_below HR0.out HB.out)) | ((with_reducible refine gate_callee (f := 26) rfl ?_); refine Rgn.gl (some 17) Tryd.func26 #[.string (strOfNums l0), .int .u8 32] ?_; (with_reducible refine (spec_l10Cut.calls k (strOfNums l0) 32 t232 _ A5.out).mono ?_); rintro e w8 ⟨v233, rfl, ho0, hb⟩; refine ⟨_, rfl, ?_⟩; have HO234 := Aside0.mk (Kd.R_lower ho0 (below_size (Rgn.bq HB.out))); replace BK231 := Aside0.mk (Rgn.bb BK231.out hb); replace HB := Aside0.mk (below_step (Rgn.bq HB.out) hb); (try clear hb); (try clear ho0)))
  go_loopg [4] k (fun kq v4 w' => ∃ (x4_1 : Int) (x232000_1 : Int) (x232001_1 : Int) (x232002_1 : ByteArray) (x232003_1 : ByteArray) (x232004_1 : Int) (x232005_1 : Int) (x232006_1 : Int) (x232007_1 : ByteArray), v4 = .int .i64 x4_1 ∧ Aside0 (spec_ParseLine.l0 kq t232 x4_1 = some (r1, r2, r3, r4, r5, r6, r7, r8, r9)) ∧ Aside0 (kq ≤ k) ∧ Aside0 (Kd.R Kd.string 9 w' w.heap.size (fun _ => True) v233 t232) ∧ Aside0 (w'.heap[gb231]? = some (.cells #[.int .i64 x232000_1, .int .i64 x232001_1, .string x232002_1, .string x232003_1, .int .i64 x232004_1, .int .i64 x232005_1, .int .i64 x232006_1, .string x232007_1, (.slice none 0 0)] 27 (0, 0))) ∧ Aside0 (Below w.heap.size w w'))
  case atStart => exact ⟨(0), (0), (0), ((⟨#[]⟩ : ByteArray)), ((⟨#[]⟩ : ByteArray)), (0), (0), (0), ((⟨#[]⟩ : ByteArray)), (by first | rfl | (simp; done) | (simp [*]; done)), H', ⟨Nat.le_refl _⟩, ⟨Rgn.rq HO234.out⟩, ⟨Rgn.kb BK231.out⟩, ⟨Rgn.bq HB.out⟩⟩
  case round =>
   clear H'
   try clear c2
   try clear c2b0
   try clear c2b1
   try clear hcv7
   obtain ⟨x4_1, x232000_1, x232001_1, x232002_1, x232003_1, x232004_1, x232005_1, x232006_1, x232007_1, rfl, HA, HK1, HO_3, BK231, HB⟩ := hrel
   cases gk with
   | zero => exact absurd HA.out (by simp [spec_ParseLine.l0])
   | succ k1 =>
    have H := HA.out
    clear HA
    simp only [spec_ParseLine.l0] at H
    by_cases c9 : x4_1 < (t232.length : Int)
    ·
     rw [if_pos c9] at H
     have c9b0 : decide (x4_1 < (t232.length : Int)) = true := decide_eq_true c9
     clear c9
     by_cases c10 : 0 ≤ x4_1
     ·
      rw [if_pos c10] at H
      have c10b0 : decide (0 ≤ x4_1) = true := decide_eq_true c10
      clear c10
      by_cases c11 : (rdOf ByteArray.empty t232 x4_1).toList = ([] : List UInt8)
      ·
       rw [if_pos c11] at H
       have c11b0 : ((rdOf ByteArray.empty t232 x4_1).toList == ([] : List UInt8)) = true := beq_iff_eq.mpr c11
       have c11b1 : ((rdOf ByteArray.empty t232 x4_1).toList != ([] : List UInt8)) = false := bne_eq_false_iff_eq.mpr c11
       clear c11
       simp only [Option.some.injEq, Prod.mk.injEq] at H
       obtain ⟨rfl, rfl, rfl, rfl, rfl, rfl, rfl, rfl, rfl⟩ := H
       obtain ⟨Ao12, co12, eo12⟩ := Kd.R_slice HO_3.out
       subst eo12
       have p235 : 0 ≤ (x4_1 : Int) := of_decide_eq_true (by first | (with_reducible assumption) | assumption)
       have q235 : x4_1 < (t232.length : Int) := of_decide_eq_true (by first | (with_reducible assumption) | assumption)
       obtain ⟨ad235, e235, hx235_0⟩ := Kd.at_string (Kd.R_reads' HO_3.out).2.2 x4_1 p235 q235
       cases e235
       replace p235 := eq_true p235
       replace q235 := eq_true q235
       obtain ⟨hcz13_0, hcz13_1, hcz13_2, hcz13_3, hcz13_4, hcz13_5, hcz13_6, hcz13_7, hcz13_8, hfz13_0, hfz13_1, hfz13_2, hfz13_3, hfz13_4, hfz13_5, hfz13_6, hfz13_7, hfz13_8⟩ := Rgn.cf9 BK231.out
       go_wp2
       refine bodyPost_ret (results_cell_row rfl _ _ gb231 27 _ (0, 0) _ rfl (by exact Rgn.put9 (Rgn.kf BK231.out)) Tryd.underlying27 rfl (by kernel_rfl)) rfl ?_
       exact ⟨_, by first | rfl | (simp [errW_none, errW_some] <;> rfl) | (simp [*, errW_none, errW_some] <;> rfl), by first | exact Kd.R_nil _ _ _ _ _ | exact Kd.N_nil _ _ _ _ _ | exact Kd.V_nil _ _ _ _ _ | exact Kd.Q_nil _ _ _ _ _ | exact Kd.S_nil _ _ _ _ _, Rgn.bq HB.out⟩
      ·
       rw [if_neg c11] at H
       have c11b0 : ((rdOf ByteArray.empty t232 x4_1).toList == ([] : List UInt8)) = false := beq_eq_false_iff_ne.mpr c11
       have c11b1 : ((rdOf ByteArray.empty t232 x4_1).toList != ([] : List UInt8)) = true := bne_iff_ne.mpr c11
       have H' := Aside0.mk H
       clear H
       obtain ⟨Ao14, co14, eo14⟩ := Kd.R_slice HO_3.out
       subst eo14
       have p235 : 0 ≤ (x4_1 : Int) := of_decide_eq_true (by first | (with_reducible assumption) | assumption)
       have q235 : x4_1 < (t232.length : Int) := of_decide_eq_true (by first | (with_reducible assumption) | assumption)
       obtain ⟨ad235, e235, hx235_0⟩ := Kd.at_string (Kd.R_reads' HO_3.out).2.2 x4_1 p235 q235
       cases e235
       replace p235 := eq_true p235
       replace q235 := eq_true q235
       go_wp2
       go_roundg k1
       case measure => have := HK1.out; omega
       case rel => exact ⟨(wrap64 (x4_1 + 1)), (x232000_1), (x232001_1), (x232002_1), (x232003_1), (x232004_1), (x232005_1), (x232006_1), (x232007_1), (by first | rfl | (simp; done) | (simp [*]; done)), H', ⟨by have := HK1.out; omega⟩, ⟨Rgn.rq HO_3.out⟩, ⟨Rgn.kb BK231.out⟩, ⟨Rgn.bq HB.out⟩⟩
     ·
      rw [if_neg c10] at H
      exact absurd H (by simp)
    ·
     rw [if_neg c9] at H
     have c9b0 : decide (x4_1 < (t232.length : Int)) = false := decide_eq_false c9
     clear c9
     have HC15 := Aside0.mk H
     clear H
     obtain ⟨Ao16, co16, eo16⟩ := Kd.R_slice HO_3.out
     subst eo16
     go_upto_if 32 with (fail)
     go_cut [] (fun wc => ∃ (kq : Nat) (x232000_14 : Int) (x232001_14 : Int) (x232002_14 : ByteArray) (x232003_14 : ByteArray) (x232004_14 : Int) (x232005_14 : Int) (x232006_14 : Int) (x232007_14 : ByteArray), Aside0 (spec_ParseLine.j1 kq t232 = some (r1, r2, r3, r4, r5, r6, r7, r8, r9)) ∧ Aside0 (kq ≤ k1) ∧ Aside0 (Kd.R Kd.string 9 wc w.heap.size (fun _ => True) (.slice Ao16 t232.length co16) t232) ∧ Aside0 (wc.heap[gb231]? = some (.cells #[.int .i64 x232000_14, .int .i64 x232001_14, .string x232002_14, .string x232003_14, .int .i64 x232004_14, .int .i64 x232005_14, .int .i64 x232006_14, .string x232007_14, (.slice none 0 0)] 27 (0, 0))) ∧ Aside0 (Below w.heap.size w wc))
     case first =>
      have H := HC15.out
      clear HC15
      by_cases c17 : (t232.length : Int) = 1
      ·
       rw [if_pos c17] at H
       have c17b0 : ((t232.length : Int) == 1) = true := beq_iff_eq.mpr c17
       have c17b1 : ((t232.length : Int) != 1) = false := bne_eq_false_iff_eq.mpr c17
       clear c17
       (first | rw [c17b0] | (simp only [i64_w, i32_w]; rw [c17b0]) | skip)
       by_cases c18 : 0 < (t232.length : Int)
       ·
        rw [if_pos c18] at H
        have c18b0 : decide (0 < (t232.length : Int)) = true := decide_eq_true c18
        have c18b1 : decide (0 < t232.length) = true := decide_eq_true (by omega)
        clear c18
        by_cases c19 : (rdOf ByteArray.empty t232 0).toList = ([116, 114, 101, 101] : List UInt8)
        ·
         rw [if_pos c19] at H
         have c19b0 : ((rdOf ByteArray.empty t232 0).toList == ([116, 114, 101, 101] : List UInt8)) = true := beq_iff_eq.mpr c19
         have c19b1 : ((rdOf ByteArray.empty t232 0).toList != ([116, 114, 101, 101] : List UInt8)) = false := bne_eq_false_iff_eq.mpr c19
         clear c19
         simp only [Option.some.injEq, Prod.mk.injEq] at H
         obtain ⟨rfl, rfl, rfl, rfl, rfl, rfl, rfl, rfl, rfl⟩ := H
         have p236 : 0 ≤ (0 : Int) := (by omega)
         have q236 : 0 < (t232.length : Int) := of_decide_eq_true (by first | (with_reducible assumption) | assumption)
         obtain ⟨ad236, e236, hx236_0⟩ := Kd.at_string (Kd.R_reads' HO_3.out).2.2 0 p236 q236
         cases e236
         have qi236 : (0 < t232.length) = True := eq_true (by omega)
         (try rw [show ((0 : Int)).toNat = 0 from rfl] at hx236_0)
         (try rw [Addr.add_zero'] at hx236_0)
         replace p236 := eq_true p236
         replace q236 := eq_true q236
         obtain ⟨hcz20_0, hcz20_1, hcz20_2, hcz20_3, hcz20_4, hcz20_5, hcz20_6, hcz20_7, hcz20_8, hfz20_0, hfz20_1, hfz20_2, hfz20_3, hfz20_4, hfz20_5, hfz20_6, hfz20_7, hfz20_8⟩ := Rgn.cf9 BK231.out
         go_wp2
         refine bodyPost_ret (results_cell_row rfl _ _ gb231 27 _ (0, 0) _ rfl (by exact Rgn.put9 (Rgn.kf BK231.out)) Tryd.underlying27 rfl (by kernel_rfl)) rfl ?_
         exact ⟨_, by first | rfl | (simp [errW_none, errW_some] <;> rfl) | (simp [*, errW_none, errW_some] <;> rfl), by first | exact Kd.R_nil _ _ _ _ _ | exact Kd.N_nil _ _ _ _ _ | exact Kd.V_nil _ _ _ _ _ | exact Kd.Q_nil _ _ _ _ _ | exact Kd.S_nil _ _ _ _ _, Rgn.bq HB.out⟩
        ·
         rw [if_neg c19] at H
         have c19b0 : ((rdOf ByteArray.empty t232 0).toList == ([116, 114, 101, 101] : List UInt8)) = false := beq_eq_false_iff_ne.mpr c19
         have c19b1 : ((rdOf ByteArray.empty t232 0).toList != ([116, 114, 101, 101] : List UInt8)) = true := bne_iff_ne.mpr c19
         by_cases c21 : (rdOf ByteArray.empty t232 0).toList = ([99, 104, 101, 99, 107] : List UInt8)
         ·
          rw [if_pos c21] at H
          have c21b0 : ((rdOf ByteArray.empty t232 0).toList == ([99, 104, 101, 99, 107] : List UInt8)) = true := beq_iff_eq.mpr c21
          have c21b1 : ((rdOf ByteArray.empty t232 0).toList != ([99, 104, 101, 99, 107] : List UInt8)) = false := bne_eq_false_iff_eq.mpr c21
          clear c21
          simp only [Option.some.injEq, Prod.mk.injEq] at H
          obtain ⟨rfl, rfl, rfl, rfl, rfl, rfl, rfl, rfl, rfl⟩ := H
          have p236 : 0 ≤ (0 : Int) := (by omega)
          have q236 : 0 < (t232.length : Int) := of_decide_eq_true (by first | (with_reducible assumption) | assumption)
          obtain ⟨ad236, e236, hx236_0⟩ := Kd.at_string (Kd.R_reads' HO_3.out).2.2 0 p236 q236
          cases e236
          have qi236 : (0 < t232.length) = True := eq_true (by omega)
          (try rw [show ((0 : Int)).toNat = 0 from rfl] at hx236_0)
          (try rw [Addr.add_zero'] at hx236_0)
          replace p236 := eq_true p236
          replace q236 := eq_true q236
          obtain ⟨hcz22_0, hcz22_1, hcz22_2, hcz22_3, hcz22_4, hcz22_5, hcz22_6, hcz22_7, hcz22_8, hfz22_0, hfz22_1, hfz22_2, hfz22_3, hfz22_4, hfz22_5, hfz22_6, hfz22_7, hfz22_8⟩ := Rgn.cf9 BK231.out
          go_wp2
          refine bodyPost_ret (results_cell_row rfl _ _ gb231 27 _ (0, 0) _ rfl (by exact Rgn.put9 (Rgn.kf BK231.out)) Tryd.underlying27 rfl (by kernel_rfl)) rfl ?_
          exact ⟨_, by first | rfl | (simp [errW_none, errW_some] <;> rfl) | (simp [*, errW_none, errW_some] <;> rfl), by first | exact Kd.R_nil _ _ _ _ _ | exact Kd.N_nil _ _ _ _ _ | exact Kd.V_nil _ _ _ _ _ | exact Kd.Q_nil _ _ _ _ _ | exact Kd.S_nil _ _ _ _ _, Rgn.bq HB.out⟩
         ·
          rw [if_neg c21] at H
          have c21b0 : ((rdOf ByteArray.empty t232 0).toList == ([99, 104, 101, 99, 107] : List UInt8)) = false := beq_eq_false_iff_ne.mpr c21
          have c21b1 : ((rdOf ByteArray.empty t232 0).toList != ([99, 104, 101, 99, 107] : List UInt8)) = true := bne_iff_ne.mpr c21
          by_cases c23 : (rdOf ByteArray.empty t232 0).toList = ([109, 111, 117, 110, 116] : List UInt8)
          ·
           rw [if_pos c23] at H
           have c23b0 : ((rdOf ByteArray.empty t232 0).toList == ([109, 111, 117, 110, 116] : List UInt8)) = true := beq_iff_eq.mpr c23
           have c23b1 : ((rdOf ByteArray.empty t232 0).toList != ([109, 111, 117, 110, 116] : List UInt8)) = false := bne_eq_false_iff_eq.mpr c23
           clear c23
           simp only [Option.some.injEq, Prod.mk.injEq] at H
           obtain ⟨rfl, rfl, rfl, rfl, rfl, rfl, rfl, rfl, rfl⟩ := H
           have p236 : 0 ≤ (0 : Int) := (by omega)
           have q236 : 0 < (t232.length : Int) := of_decide_eq_true (by first | (with_reducible assumption) | assumption)
           obtain ⟨ad236, e236, hx236_0⟩ := Kd.at_string (Kd.R_reads' HO_3.out).2.2 0 p236 q236
           cases e236
           have qi236 : (0 < t232.length) = True := eq_true (by omega)
           (try rw [show ((0 : Int)).toNat = 0 from rfl] at hx236_0)
           (try rw [Addr.add_zero'] at hx236_0)
           replace p236 := eq_true p236
           replace q236 := eq_true q236
           obtain ⟨hcz24_0, hcz24_1, hcz24_2, hcz24_3, hcz24_4, hcz24_5, hcz24_6, hcz24_7, hcz24_8, hfz24_0, hfz24_1, hfz24_2, hfz24_3, hfz24_4, hfz24_5, hfz24_6, hfz24_7, hfz24_8⟩ := Rgn.cf9 BK231.out
           go_wp2
           refine bodyPost_ret (results_cell_row rfl _ _ gb231 27 _ (0, 0) _ rfl (by exact Rgn.put9 (Rgn.kf BK231.out)) Tryd.underlying27 rfl (by kernel_rfl)) rfl ?_
           exact ⟨_, by first | rfl | (simp [errW_none, errW_some] <;> rfl) | (simp [*, errW_none, errW_some] <;> rfl), by first | exact Kd.R_nil _ _ _ _ _ | exact Kd.N_nil _ _ _ _ _ | exact Kd.V_nil _ _ _ _ _ | exact Kd.Q_nil _ _ _ _ _ | exact Kd.S_nil _ _ _ _ _, Rgn.bq HB.out⟩
          ·
           rw [if_neg c23] at H
           have c23b0 : ((rdOf ByteArray.empty t232 0).toList == ([109, 111, 117, 110, 116] : List UInt8)) = false := beq_eq_false_iff_ne.mpr c23
           have c23b1 : ((rdOf ByteArray.empty t232 0).toList != ([109, 111, 117, 110, 116] : List UInt8)) = true := bne_iff_ne.mpr c23
           replace H := Option.bind_eq_some_iff.mp H
           obtain ⟨t238, A250, H⟩ := H
           replace H : (if t238 > 0 then ((spec_l14Lone.f k1 (rdOf ByteArray.empty t232 0)).bind fun t240 => (some (1, t240, (⟨#[]⟩ : ByteArray), (⟨#[]⟩ : ByteArray), 0, 0, 0, (⟨#[]⟩ : ByteArray), ([] : List Int)))) else (spec_ParseLine.j1 k1 t232)) = some (r1, r2, r3, r4, r5, r6, r7, r8, r9) := H
           have A25 := Aside0.mk A250
           clear A250
           by_cases c26 : t238 > 0
           ·
            rw [if_pos c26] at H
            have c26b0 : decide (0 < t238) = true := decide_eq_true c26
            clear c26
            replace H := Option.bind_eq_some_iff.mp H
            obtain ⟨t240, A270, H⟩ := H
            replace H : (some (1, t240, (⟨#[]⟩ : ByteArray), (⟨#[]⟩ : ByteArray), 0, 0, 0, (⟨#[]⟩ : ByteArray), ([] : List Int))) = some (r1, r2, r3, r4, r5, r6, r7, r8, r9) := H
            have A27 := Aside0.mk A270
            clear A270
            simp only [Option.some.injEq, Prod.mk.injEq] at H
            obtain ⟨rfl, rfl, rfl, rfl, rfl, rfl, rfl, rfl, rfl⟩ := H
            have p236 : 0 ≤ (0 : Int) := (by omega)
            have q236 : 0 < (t232.length : Int) := of_decide_eq_true (by first | (with_reducible assumption) | assumption)
            obtain ⟨ad236, e236, hx236_0⟩ := Kd.at_string (Kd.R_reads' HO_3.out).2.2 0 p236 q236
            cases e236
            have qi236 : (0 < t232.length) = True := eq_true (by omega)
            (try rw [show ((0 : Int)).toNat = 0 from rfl] at hx236_0)
            (try rw [Addr.add_zero'] at hx236_0)
            replace p236 := eq_true p236
            replace q236 := eq_true q236
            have p237 : 0 ≤ (0 : Int) := (by omega)
            have q237 : 0 < (t232.length : Int) := of_decide_eq_true (by first | (with_reducible assumption) | assumption)
            obtain ⟨ad237, e237, hx237_0⟩ := Kd.at_string (Kd.R_reads' HO_3.out).2.2 0 p237 q237
            obtain rfl : ad236 = ad237 := (by injection e237)
            have qi237 : (0 < t232.length) = True := eq_true (by omega)
            (try rw [show ((0 : Int)).toNat = 0 from rfl] at hx237_0)
            (try rw [Addr.add_zero'] at hx237_0)
            replace p237 := eq_true p237
            replace q237 := eq_true q237
            go_wp2_with (first | ((with_reducible refine gate_callee (f := 27) rfl ?_); refine Rgn.gl (some 48) Tryd.func27 #[.string (rdOf ByteArray.empty t232 0)] ?_; (with_reducible refine (spec_l14Lone.calls k1 (rdOf ByteArray.empty t232 0) t238 _ A25.out).mono ?_); rintro e w28 ⟨rfl, hb⟩; refine ⟨_, rfl, ?_⟩; replace HO_3 := Aside0.mk (Kd.R_below (Rgn.rq HO_3.out) hb); replace BK231 := Aside0.mk (Rgn.bb BK231.out hb); replace HB := Aside0.mk (below_step (Rgn.bq HB.out) hb); (try clear hb); have p239 : 0 ≤ (0 : Int) := (by omega); have q239 : 0 < (t232.length : Int) := of_decide_eq_true (by first | (with_reducible assumption) | assumption); obtain ⟨ad239, e239, hx239_0⟩ := Kd.at_string (Kd.R_reads' HO_3.out).2.2 0 p239 q239; obtain rfl : ad236 = ad239 := (by injection e239); have qi239 : (0 < t232.length) = True := eq_true (by omega); (try rw [show ((0 : Int)).toNat = 0 from rfl] at hx239_0); (try rw [Addr.add_zero'] at hx239_0); replace p239 := eq_true p239; replace q239 := eq_true q239) | ((with_reducible refine gate_callee (f := 27) rfl ?_); refine Rgn.gl (some 53) Tryd.func27 #[.string (rdOf ByteArray.empty t232 0)] ?_; (with_reducible refine (spec_l14Lone.calls k1 (rdOf ByteArray.empty t232 0) t240 _ A27.out).mono ?_); rintro e w29 ⟨rfl, hb⟩; refine ⟨_, rfl, ?_⟩; replace HO_3 := Aside0.mk (Kd.R_below (Rgn.rq HO_3.out) hb); replace BK231 := Aside0.mk (Rgn.bb BK231.out hb); replace HB := Aside0.mk (below_step (Rgn.bq HB.out) hb); (try clear hb); obtain ⟨hcz30_0, hcz30_1, hcz30_2, hcz30_3, hcz30_4, hcz30_5, hcz30_6, hcz30_7, hcz30_8, hfz30_0, hfz30_1, hfz30_2, hfz30_3, hfz30_4, hfz30_5, hfz30_6, hfz30_7, hfz30_8⟩ := Rgn.cf9 BK231.out))
            refine bodyPost_ret (results_cell_row rfl _ _ gb231 27 _ (0, 0) _ rfl (by exact Rgn.put9 (Rgn.kf BK231.out)) Tryd.underlying27 rfl (by kernel_rfl)) rfl ?_
            exact ⟨_, by first | rfl | (simp [errW_none, errW_some] <;> rfl) | (simp [*, errW_none, errW_some] <;> rfl), by first | exact Kd.R_nil _ _ _ _ _ | exact Kd.N_nil _ _ _ _ _ | exact Kd.V_nil _ _ _ _ _ | exact Kd.Q_nil _ _ _ _ _ | exact Kd.S_nil _ _ _ _ _, Rgn.bq HB.out⟩
           ·
            rw [if_neg c26] at H
            have c26b0 : decide (0 < t238) = false := decide_eq_false c26
            clear c26
            have H' := Aside0.mk H
            clear H
            have p236 : 0 ≤ (0 : Int) := (by omega)
            have q236 : 0 < (t232.length : Int) := of_decide_eq_true (by first | (with_reducible assumption) | assumption)
            obtain ⟨ad236, e236, hx236_0⟩ := Kd.at_string (Kd.R_reads' HO_3.out).2.2 0 p236 q236
            cases e236
            have qi236 : (0 < t232.length) = True := eq_true (by omega)
            (try rw [show ((0 : Int)).toNat = 0 from rfl] at hx236_0)
            (try rw [Addr.add_zero'] at hx236_0)
            replace p236 := eq_true p236
            replace q236 := eq_true q236
            have p237 : 0 ≤ (0 : Int) := (by omega)
            have q237 : 0 < (t232.length : Int) := of_decide_eq_true (by first | (with_reducible assumption) | assumption)
            obtain ⟨ad237, e237, hx237_0⟩ := Kd.at_string (Kd.R_reads' HO_3.out).2.2 0 p237 q237
            obtain rfl : ad236 = ad237 := (by injection e237)
            have qi237 : (0 < t232.length) = True := eq_true (by omega)
            (try rw [show ((0 : Int)).toNat = 0 from rfl] at hx237_0)
            (try rw [Addr.add_zero'] at hx237_0)
            replace p237 := eq_true p237
            replace q237 := eq_true q237
            go_wp2_with (first | ((with_reducible refine gate_callee (f := 27) rfl ?_); refine Rgn.gl (some 48) Tryd.func27 #[.string (rdOf ByteArray.empty t232 0)] ?_; (with_reducible refine (spec_l14Lone.calls k1 (rdOf ByteArray.empty t232 0) t238 _ A25.out).mono ?_); rintro e w31 ⟨rfl, hb⟩; refine ⟨_, rfl, ?_⟩; replace HO_3 := Aside0.mk (Kd.R_below (Rgn.rq HO_3.out) hb); replace BK231 := Aside0.mk (Rgn.bb BK231.out hb); replace HB := Aside0.mk (below_step (Rgn.bq HB.out) hb); (try clear hb)))
            go_meet
            case rel => exact ⟨_, (x232000_1), (x232001_1), (x232002_1), (x232003_1), (x232004_1), (x232005_1), (x232006_1), (x232007_1), H', ⟨by have := HK1.out; first | omega | exact Nat.le_refl _⟩, ⟨Rgn.rq HO_3.out⟩, ⟨Rgn.kb BK231.out⟩, ⟨Rgn.bq HB.out⟩⟩
       ·
        rw [if_neg c18] at H
        exact absurd H (by simp)
      ·
       rw [if_neg c17] at H
       have c17b0 : ((t232.length : Int) == 1) = false := beq_eq_false_iff_ne.mpr c17
       have c17b1 : ((t232.length : Int) != 1) = true := bne_iff_ne.mpr c17
       (first | rw [c17b0] | (simp only [i64_w, i32_w]; rw [c17b0]) | skip)
       have H' := Aside0.mk H
       clear H
       go_wp2
       go_meet
       case rel => exact ⟨_, (x232000_1), (x232001_1), (x232002_1), (x232003_1), (x232004_1), (x232005_1), (x232006_1), (x232007_1), H', ⟨by have := HK1.out; first | omega | exact Nat.le_refl _⟩, ⟨Rgn.rq HO_3.out⟩, ⟨Rgn.kb BK231.out⟩, ⟨Rgn.bq HB.out⟩⟩
     case rest =>
      clear HC15
      try clear c2
      try clear c2b0
      try clear c2b1
      try clear hcv7
      try clear c9
      try clear c9b0
      obtain ⟨kq, x232000_14, x232001_14, x232002_14, x232003_14, x232004_14, x232005_14, x232006_14, x232007_14, HA, HJ14, HO_3, BK231, HB⟩ := hcut
      cases kq with
      | zero => exact absurd HA.out (by simp [spec_ParseLine.j1])
      | succ kj14 =>
       have H := HA.out
       clear HA
       simp only [spec_ParseLine.j1] at H
       have HC32 := Aside0.mk H
       clear H
       go_upto_region 19 with (fail)
       go_cut [65] from 65 to 65 (fun v65 wc => ∃ (kq : Nat) (x65_31 : Bool), v65 = .bool x65_31 ∧ Aside0 (spec_ParseLine.j2 kq t232 x65_31 = some (r1, r2, r3, r4, r5, r6, r7, r8, r9)) ∧ Aside0 (kq ≤ kj14) ∧ Aside0 (Kd.R Kd.string 9 wc w.heap.size (fun _ => True) (.slice Ao16 t232.length co16) t232) ∧ Aside0 (wc.heap[gb231]? = some (.cells #[.int .i64 x232000_14, .int .i64 x232001_14, .string x232002_14, .string x232003_14, .int .i64 x232004_14, .int .i64 x232005_14, .int .i64 x232006_14, .string x232007_14, (.slice none 0 0)] 27 (0, 0))) ∧ Aside0 (Below w.heap.size w wc))
       case first =>
        have H := HC32.out
        clear HC32
        by_cases c33 : (t232.length : Int) = 2
        ·
         rw [if_pos c33] at H
         have c33b0 : ((t232.length : Int) == 2) = true := beq_iff_eq.mpr c33
         have c33b1 : ((t232.length : Int) != 2) = false := bne_eq_false_iff_eq.mpr c33
         clear c33
         (first | rw [c33b0] | (simp only [i64_w, i32_w]; rw [c33b0]) | skip)
         by_cases c34 : 0 < (t232.length : Int)
         ·
          rw [if_pos c34] at H
          have c34b0 : decide (0 < (t232.length : Int)) = true := decide_eq_true c34
          have c34b1 : decide (0 < t232.length) = true := decide_eq_true (by omega)
          clear c34
          replace H := Option.bind_eq_some_iff.mp H
          obtain ⟨t242, A350, H⟩ := H
          replace H : (spec_ParseLine.j2 kj14 t232 (decide (t242 > 0))) = some (r1, r2, r3, r4, r5, r6, r7, r8, r9) := H
          have A35 := Aside0.mk A350
          clear A350
          have H' := Aside0.mk H
          clear H
          have p241 : 0 ≤ (0 : Int) := (by omega)
          have q241 : 0 < (t232.length : Int) := of_decide_eq_true (by first | (with_reducible assumption) | assumption)
          obtain ⟨ad241, e241, hx241_0⟩ := Kd.at_string (Kd.R_reads' HO_3.out).2.2 0 p241 q241
          cases e241
          have qi241 : (0 < t232.length) = True := eq_true (by omega)
          (try rw [show ((0 : Int)).toNat = 0 from rfl] at hx241_0)
          (try rw [Addr.add_zero'] at hx241_0)
          replace p241 := eq_true p241
          replace q241 := eq_true q241
          go_wp2_with (first | (go_at_call 28; (with_reducible refine (spec_l14Word.calls (rdOf ByteArray.empty t232 0) t242 _ A35.out).mono ?_); rintro e w' ⟨rfl, ⟨nd, rfl⟩⟩))
          go_meet
          case rel => exact ⟨_, (decide (t242 > 0)), (by first | rfl | (simp; done) | (simp [*]; done)), H', ⟨by have := HK1.out; have := HJ14.out; first | omega | exact Nat.le_refl _⟩, ⟨Rgn.rq HO_3.out⟩, ⟨Rgn.kb BK231.out⟩, ⟨Rgn.bq HB.out⟩⟩
         ·
          rw [if_neg c34] at H
          exact absurd H (by simp)
        ·
         rw [if_neg c33] at H
         have c33b0 : ((t232.length : Int) == 2) = false := beq_eq_false_iff_ne.mpr c33
         have c33b1 : ((t232.length : Int) != 2) = true := bne_iff_ne.mpr c33
         (first | rw [c33b0] | (simp only [i64_w, i32_w]; rw [c33b0]) | skip)
         have H' := Aside0.mk H
         clear H
         go_wp2
         go_meet
         case rel => exact ⟨_, (false), (by first | rfl | (simp; done) | (simp [*]; done)), H', ⟨by have := HK1.out; have := HJ14.out; first | omega | exact Nat.le_refl _⟩, ⟨Rgn.rq HO_3.out⟩, ⟨Rgn.kb BK231.out⟩, ⟨Rgn.bq HB.out⟩⟩
       case rest =>
        clear HC32
        try clear c2
        try clear c2b0
        try clear c2b1
        try clear hcv7
        try clear c9
        try clear c9b0
        obtain ⟨kq, x65_31, rfl, HA, HJ31, HO_3, BK231, HB⟩ := hcut
        cases kq with
        | zero => exact absurd HA.out (by simp [spec_ParseLine.j2])
        | succ kj31 =>
         have H := HA.out
         clear HA
         simp only [spec_ParseLine.j2] at H
         by_cases c36 : x65_31 = true
         ·
          subst c36
          replace H := Rgn.ip H
          by_cases c37 : 0 < (t232.length : Int)
          ·
           rw [if_pos c37] at H
           have c37b0 : decide (0 < (t232.length : Int)) = true := decide_eq_true c37
           have c37b1 : decide (0 < t232.length) = true := decide_eq_true (by omega)
           clear c37
           replace H := Option.bind_eq_some_iff.mp H
           obtain ⟨t244, A380, H⟩ := H
           replace H : (if 1 < (t232.length : Int) then (some (1, t244, rdOf ByteArray.empty t232 1, (⟨#[]⟩ : ByteArray), 0, 0, 0, (⟨#[]⟩ : ByteArray), ([] : List Int))) else (none)) = some (r1, r2, r3, r4, r5, r6, r7, r8, r9) := H
           have A38 := Aside0.mk A380
           clear A380
           by_cases c39 : 1 < (t232.length : Int)
           ·
            rw [if_pos c39] at H
            have c39b0 : decide (1 < (t232.length : Int)) = true := decide_eq_true c39
            have c39b1 : decide (1 < t232.length) = true := decide_eq_true (by omega)
            clear c39
            simp only [Option.some.injEq, Prod.mk.injEq] at H
            obtain ⟨rfl, rfl, rfl, rfl, rfl, rfl, rfl, rfl, rfl⟩ := H
            try go_wp2
            replace HO_3 := Aside0.mk (Kd.R_drew HO_3.out)
            replace BK231 := Aside0.mk (blk_drew BK231.out)
            replace HB := Aside0.mk (below_drew1 HB.out)
            have p243 : 0 ≤ (0 : Int) := (by omega)
            have q243 : 0 < (t232.length : Int) := of_decide_eq_true (by first | (with_reducible assumption) | assumption)
            obtain ⟨ad243, e243, hx243_0⟩ := Kd.at_string (Kd.R_reads' HO_3.out).2.2 0 p243 q243
            cases e243
            have qi243 : (0 < t232.length) = True := eq_true (by omega)
            (try rw [show ((0 : Int)).toNat = 0 from rfl] at hx243_0)
            (try rw [Addr.add_zero'] at hx243_0)
            replace p243 := eq_true p243
            replace q243 := eq_true q243
            have p245 : 0 ≤ (1 : Int) := (by omega)
            have q245 : 1 < (t232.length : Int) := of_decide_eq_true (by first | (with_reducible assumption) | assumption)
            obtain ⟨ad245, e245, hx245_0⟩ := Kd.at_string (Kd.R_reads' HO_3.out).2.2 1 p245 q245
            obtain rfl : ad243 = ad245 := (by injection e245)
            (try simp only [show (1 : Int).toNat = 1 from rfl, Nat.reduceMul, Nat.reduceEqDiff, Go.Addr.add, ↓reduceIte] at hx245_0)
            have qi245 : (1 < t232.length) = True := eq_true (by omega)
            (try rw [show ((1 : Int)).toNat = 1 from rfl] at hx245_0)
            replace p245 := eq_true p245
            replace q245 := eq_true q245
            refine start_ (n := 10) (S := fun w' => w'.cell? ad243 = some (.string (rdOf ByteArray.empty t232 0)) ∧ w'.cell? ⟨ad243.block, ad243.off + 1, none⟩ = some (.string (rdOf ByteArray.empty t232 1))) (ds := []) #[false, false, false, false, false, false, false, false, false, false] (by kernel_rfl) rfl rfl ⟨hx243_0, hx245_0⟩ (fun hHeld => ?_); refine with_tabW spec_ParseLine.tab20 spec_ParseLine.bits20 (fun HT_ HW_ => ?_)
            generalize wc.drew = w40 at HO_3 BK231 HB hx243_0 hx245_0 hHeld ⊢
            refine Rgn.pu HT_.out 0 66 ?_
            refine Rgn.pu HT_.out 1 67 ?_
            refine Rgn.pu HT_.out 4 70 ?_
            refine Rgn.pu HT_.out 5 71 ?_
            refine Rgn.tk HT_.out HW_.out 2 68 hHeld ?_
            refine Rgn.tk HT_.out HW_.out 6 72 hHeld ?_
            refine one_ (i := 3) (N := some 69) #[true, true, true, true, true, true, true, false, false, false] rfl rfl (one_of HT_.out (by kernel_rfl)) (by decide) (fun K hK => ?_)
            refine Rgn.gs Tryd.func28 #[.string (rdOf ByteArray.empty t232 0)] ?_
            with_reducible refine (spec_l14Word.calls (rdOf ByteArray.empty t232 0) t244 _ A38.out).mono ?_
            rintro e w' ⟨rfl, ⟨nd, rfl⟩⟩
            refine ⟨_, rfl, ?_⟩
            refine hK.out _ _ ⟨hHeld.1, hHeld.2⟩ (fun hHeld => ?_)
            clear hK K
            refine norm_ (a' := ?_) ?_ ?_
            rotate_left
            ·
             show Act.put _ (some 69) _ = _
             simp only [Act.put, List.setIfInBounds_toArray, List.set_cons_zero, List.set_cons_succ, i64_w, i32_w]
             rfl
            refine Rgn.pu HT_.out 7 73 ?_
            refine Rgn.pu HT_.out 8 74 ?_
            refine one_ (i := 9) (N := none) #[true, true, true, true, true, true, true, true, true, true] rfl rfl (one_of HT_.out (by kernel_rfl)) (by decide) (fun K hK => ?_)
            obtain ⟨hs41, hs42, hs43, hs44, hs45, hs46, hs47, hs48, hs49, hfs41, hfs42, hfs43, hfs44, hfs45, hfs46, hfs47, hfs48, hfs49⟩ := Rgn.cf9 BK231.out
            refine skip_ (w1 := ?_) (by rfl) rfl ?_ ?_
            rotate_left
            ·
             go_simp
             rfl
            refine hK.out _ _ ⟨(Rgn.far9 (by first | exact Kd.own_blk (Kd.R_ne HO_3.out BK231.out (by decide)) | (rw [add_block]; exact Kd.own_blk (Kd.R_ne HO_3.out BK231.out (by decide))) | (show (Addr.add _ _).block ≠ _; rw [add_block]; exact Kd.own_blk (Kd.R_ne HO_3.out BK231.out (by decide))) | (dsimp only; exact Kd.own_blk (Kd.R_ne HO_3.out BK231.out (by decide)))) hHeld.1), (Rgn.far9 (by first | exact Kd.own_blk (Kd.R_ne HO_3.out BK231.out (by decide)) | (rw [add_block]; exact Kd.own_blk (Kd.R_ne HO_3.out BK231.out (by decide))) | (show (Addr.add _ _).block ≠ _; rw [add_block]; exact Kd.own_blk (Kd.R_ne HO_3.out BK231.out (by decide))) | (dsimp only; exact Kd.own_blk (Kd.R_ne HO_3.out BK231.out (by decide)))) hHeld.2)⟩ (fun hHeld => ?_)
            clear hK K
            refine done_ (done_of HT_.out (by kernel_rfl)) ?_
            try go_wp2
            refine bodyPost_ret (results_cell_row rfl _ _ gb231 27 _ (0, 0) _ rfl (by exact Rgn.put9 (Rgn.kf BK231.out)) Tryd.underlying27 rfl (by kernel_rfl)) rfl ?_
            exact ⟨_, by first | rfl | (simp [errW_none, errW_some] <;> rfl) | (simp [*, errW_none, errW_some] <;> rfl), by first | exact Kd.R_nil _ _ _ _ _ | exact Kd.N_nil _ _ _ _ _ | exact Kd.V_nil _ _ _ _ _ | exact Kd.Q_nil _ _ _ _ _ | exact Kd.S_nil _ _ _ _ _, Rgn.bq HB.out⟩
           ·
            rw [if_neg c39] at H
            exact absurd H (by simp)
          ·
           rw [if_neg c37] at H
           exact absurd H (by simp)
         ·
          replace c36 := Bool.eq_false_iff.mpr c36
          subst c36
          replace H := Rgn.im H
          have HC50 := Aside0.mk H
          clear H
          go_upto_region 21 with (fail)
          go_cut [84] from 84 to 84 (fun v84 wc => ∃ (kq : Nat) (x84_49 : Bool), v84 = .bool x84_49 ∧ Aside0 (spec_ParseLine.j3 kq t232 x84_49 = some (r1, r2, r3, r4, r5, r6, r7, r8, r9)) ∧ Aside0 (kq ≤ kj31) ∧ Aside0 (Kd.R Kd.string 9 wc w.heap.size (fun _ => True) (.slice Ao16 t232.length co16) t232) ∧ Aside0 (wc.heap[gb231]? = some (.cells #[.int .i64 x232000_14, .int .i64 x232001_14, .string x232002_14, .string x232003_14, .int .i64 x232004_14, .int .i64 x232005_14, .int .i64 x232006_14, .string x232007_14, (.slice none 0 0)] 27 (0, 0))) ∧ Aside0 (Below w.heap.size w wc))
          case first =>
           have H := HC50.out
           clear HC50
           by_cases c51 : 0 < (t232.length : Int)
           ·
            rw [if_pos c51] at H
            have c51b0 : decide (0 < (t232.length : Int)) = true := decide_eq_true c51
            have c51b1 : decide (0 < t232.length) = true := decide_eq_true (by omega)
            clear c51
            (first | rw [c51b0] | (simp only [i64_w, i32_w]; rw [c51b0]) | skip)
            by_cases c52 : (rdOf ByteArray.empty t232 0).toList = ([99, 114, 97, 115, 104] : List UInt8)
            ·
             rw [if_pos c52] at H
             have c52b0 : ((rdOf ByteArray.empty t232 0).toList == ([99, 114, 97, 115, 104] : List UInt8)) = true := beq_iff_eq.mpr c52
             have c52b1 : ((rdOf ByteArray.empty t232 0).toList != ([99, 114, 97, 115, 104] : List UInt8)) = false := bne_eq_false_iff_eq.mpr c52
             clear c52
             have H' := Aside0.mk H
             clear H
             have p246 : 0 ≤ (0 : Int) := (by omega)
             have q246 : 0 < (t232.length : Int) := of_decide_eq_true (by first | (with_reducible assumption) | assumption)
             obtain ⟨ad246, e246, hx246_0⟩ := Kd.at_string (Kd.R_reads' HO_3.out).2.2 0 p246 q246
             cases e246
             have qi246 : (0 < t232.length) = True := eq_true (by omega)
             (try rw [show ((0 : Int)).toNat = 0 from rfl] at hx246_0)
             (try rw [Addr.add_zero'] at hx246_0)
             replace p246 := eq_true p246
             replace q246 := eq_true q246
             go_wp2
             go_meet
             case rel => exact ⟨_, (true), (by first | rfl | (simp; done) | (simp [*]; done)), H', ⟨by have := HK1.out; have := HJ14.out; have := HJ31.out; first | omega | exact Nat.le_refl _⟩, ⟨Rgn.rq HO_3.out⟩, ⟨Rgn.kb BK231.out⟩, ⟨Rgn.bq HB.out⟩⟩
            ·
             rw [if_neg c52] at H
             have c52b0 : ((rdOf ByteArray.empty t232 0).toList == ([99, 114, 97, 115, 104] : List UInt8)) = false := beq_eq_false_iff_ne.mpr c52
             have c52b1 : ((rdOf ByteArray.empty t232 0).toList != ([99, 114, 97, 115, 104] : List UInt8)) = true := bne_iff_ne.mpr c52
             have H' := Aside0.mk H
             clear H
             have p246 : 0 ≤ (0 : Int) := (by omega)
             have q246 : 0 < (t232.length : Int) := of_decide_eq_true (by first | (with_reducible assumption) | assumption)
             obtain ⟨ad246, e246, hx246_0⟩ := Kd.at_string (Kd.R_reads' HO_3.out).2.2 0 p246 q246
             cases e246
             have qi246 : (0 < t232.length) = True := eq_true (by omega)
             (try rw [show ((0 : Int)).toNat = 0 from rfl] at hx246_0)
             (try rw [Addr.add_zero'] at hx246_0)
             replace p246 := eq_true p246
             replace q246 := eq_true q246
             have p247 : 0 ≤ (0 : Int) := (by omega)
             have q247 : 0 < (t232.length : Int) := of_decide_eq_true (by first | (with_reducible assumption) | assumption)
             obtain ⟨ad247, e247, hx247_0⟩ := Kd.at_string (Kd.R_reads' HO_3.out).2.2 0 p247 q247
             obtain rfl : ad246 = ad247 := (by injection e247)
             have qi247 : (0 < t232.length) = True := eq_true (by omega)
             (try rw [show ((0 : Int)).toNat = 0 from rfl] at hx247_0)
             (try rw [Addr.add_zero'] at hx247_0)
             replace p247 := eq_true p247
             replace q247 := eq_true q247
             go_wp2
             go_meet
             case rel => exact ⟨_, (((rdOf ByteArray.empty t232 0).toList == ([97, 114, 109] : List UInt8))), (by first | rfl | (simp; done) | (simp [*]; done)), H', ⟨by have := HK1.out; have := HJ14.out; have := HJ31.out; first | omega | exact Nat.le_refl _⟩, ⟨Rgn.rq HO_3.out⟩, ⟨Rgn.kb BK231.out⟩, ⟨Rgn.bq HB.out⟩⟩
           ·
            rw [if_neg c51] at H
            exact absurd H (by simp)
          case rest =>
           clear HC50
           try clear c2
           try clear c2b0
           try clear c2b1
           try clear hcv7
           try clear c9
           try clear c9b0
           try clear c36
           obtain ⟨kq, x84_49, rfl, HA, HJ49, HO_3, BK231, HB⟩ := hcut
           cases kq with
           | zero => exact absurd HA.out (by simp [spec_ParseLine.j3])
           | succ kj49 =>
            have H := HA.out
            clear HA
            simp only [spec_ParseLine.j3] at H
            by_cases c53 : x84_49 = true
            ·
             subst c53
             replace H := Rgn.ip H
             replace H := Option.bind_eq_some_iff.mp H
             obtain ⟨⟨t248, t249⟩, A540, H⟩ := H
             replace H : (if 0 < (t232.length : Int) then (if (rdOf ByteArray.empty t232 0).toList = ([99, 114, 97, 115, 104] : List UInt8) then (if t249 = true then (spec_ParseLine.j4 kj49 t232 t248 t249 (decide ((t248.length : Int) ≤ 600))) else (spec_ParseLine.j4 kj49 t232 t248 t249 false)) else (spec_ParseLine.j4 kj49 t232 t248 t249 false)) else (none)) = some (r1, r2, r3, r4, r5, r6, r7, r8, r9) := H
             have A54 := Aside0.mk A540
             clear A540
             have HC55 := Aside0.mk H
             clear H
             go_upto_region 23 with (first | ((with_reducible refine gate_callee (f := 29) rfl ?_); refine Rgn.gl (some 87) Tryd.func29 #[.slice Ao16 t232.length co16, .int .i64 1] ?_; (with_reducible refine (spec_l14Numbers.calls kj49 _ _ t232 1 t248 t249 _ ?side1 ?side2 A54.out).mono ?_); (case side1 => exact Rgn.cq (Kd.R_reads' HO_3.out).2.2); (case side2 => exact (Kd.R_reads' HO_3.out).2.1); rintro e w56 ⟨v250, rfl, ho0, hb⟩; refine ⟨_, rfl, ?_⟩; replace HO_3 := Aside0.mk (Kd.R_below (Rgn.rq HO_3.out) hb); have HO251 := Aside0.mk (Kd.R_lower ho0 (below_size (Rgn.bq HB.out))); replace BK231 := Aside0.mk (Rgn.bb BK231.out hb); replace HB := Aside0.mk (below_step (Rgn.bq HB.out) hb); (try clear hb); (try clear ho0)))
             (try simp only [Act.put, List.setIfInBounds_toArray, List.set_cons_zero, List.set_cons_succ])
             go_cut [101] from 101 to 101 (fun v101 wc => ∃ (kq : Nat) (x101_54 : Bool), v101 = .bool x101_54 ∧ Aside0 (spec_ParseLine.j4 kq t232 t248 t249 x101_54 = some (r1, r2, r3, r4, r5, r6, r7, r8, r9)) ∧ Aside0 (kq ≤ kj49) ∧ Aside0 (Kd.R Kd.string 9 wc w.heap.size (fun _ => True) (.slice Ao16 t232.length co16) t232) ∧ Aside0 (Kd.R (Kd.int .i64) 2 wc w.heap.size (fun _ => True) v250 t248) ∧ Aside0 (wc.heap[gb231]? = some (.cells #[.int .i64 x232000_14, .int .i64 x232001_14, .string x232002_14, .string x232003_14, .int .i64 x232004_14, .int .i64 x232005_14, .int .i64 x232006_14, .string x232007_14, (.slice none 0 0)] 27 (0, 0))) ∧ Aside0 (Below w.heap.size w wc))
             case first =>
              have H := HC55.out
              clear HC55
              by_cases c57 : 0 < (t232.length : Int)
              ·
               rw [if_pos c57] at H
               have c57b0 : decide (0 < (t232.length : Int)) = true := decide_eq_true c57
               have c57b1 : decide (0 < t232.length) = true := decide_eq_true (by omega)
               clear c57
               (first | rw [c57b0] | (simp only [i64_w, i32_w]; rw [c57b0]) | skip)
               by_cases c58 : (rdOf ByteArray.empty t232 0).toList = ([99, 114, 97, 115, 104] : List UInt8)
               ·
                rw [if_pos c58] at H
                have c58b0 : ((rdOf ByteArray.empty t232 0).toList == ([99, 114, 97, 115, 104] : List UInt8)) = true := beq_iff_eq.mpr c58
                have c58b1 : ((rdOf ByteArray.empty t232 0).toList != ([99, 114, 97, 115, 104] : List UInt8)) = false := bne_eq_false_iff_eq.mpr c58
                clear c58
                by_cases c59 : t249 = true
                ·
                 subst c59
                 replace H := Rgn.ip H
                 have H' := Aside0.mk H
                 clear H
                 have p252 : 0 ≤ (0 : Int) := (by omega)
                 have q252 : 0 < (t232.length : Int) := of_decide_eq_true (by first | (with_reducible assumption) | assumption)
                 obtain ⟨ad252, e252, hx252_0⟩ := Kd.at_string (Kd.R_reads' HO_3.out).2.2 0 p252 q252
                 cases e252
                 have qi252 : (0 < t232.length) = True := eq_true (by omega)
                 (try rw [show ((0 : Int)).toNat = 0 from rfl] at hx252_0)
                 (try rw [Addr.add_zero'] at hx252_0)
                 replace p252 := eq_true p252
                 replace q252 := eq_true q252
                 obtain ⟨Ao60, co60, eo60⟩ := Kd.R_slice HO251.out
                 subst eo60
                 go_wp2
                 go_meet
                 case rel => exact ⟨_, (decide ((t248.length : Int) ≤ 600)), (by first | rfl | (simp; done) | (simp [*]; done)), H', ⟨by have := HK1.out; have := HJ14.out; have := HJ31.out; have := HJ49.out; first | omega | exact Nat.le_refl _⟩, ⟨Rgn.rq HO_3.out⟩, ⟨Rgn.rq HO251.out⟩, ⟨Rgn.kb BK231.out⟩, ⟨Rgn.bq HB.out⟩⟩
                ·
                 replace c59 := Bool.eq_false_iff.mpr c59
                 subst c59
                 replace H := Rgn.im H
                 have H' := Aside0.mk H
                 clear H
                 have p252 : 0 ≤ (0 : Int) := (by omega)
                 have q252 : 0 < (t232.length : Int) := of_decide_eq_true (by first | (with_reducible assumption) | assumption)
                 obtain ⟨ad252, e252, hx252_0⟩ := Kd.at_string (Kd.R_reads' HO_3.out).2.2 0 p252 q252
                 cases e252
                 have qi252 : (0 < t232.length) = True := eq_true (by omega)
                 (try rw [show ((0 : Int)).toNat = 0 from rfl] at hx252_0)
                 (try rw [Addr.add_zero'] at hx252_0)
                 replace p252 := eq_true p252
                 replace q252 := eq_true q252
                 go_wp2
                 go_meet
                 case rel => exact ⟨_, (false), (by first | rfl | (simp; done) | (simp [*]; done)), H', ⟨by have := HK1.out; have := HJ14.out; have := HJ31.out; have := HJ49.out; first | omega | exact Nat.le_refl _⟩, ⟨Rgn.rq HO_3.out⟩, ⟨Rgn.rq HO251.out⟩, ⟨Rgn.kb BK231.out⟩, ⟨Rgn.bq HB.out⟩⟩
               ·
                rw [if_neg c58] at H
                have c58b0 : ((rdOf ByteArray.empty t232 0).toList == ([99, 114, 97, 115, 104] : List UInt8)) = false := beq_eq_false_iff_ne.mpr c58
                have c58b1 : ((rdOf ByteArray.empty t232 0).toList != ([99, 114, 97, 115, 104] : List UInt8)) = true := bne_iff_ne.mpr c58
                have H' := Aside0.mk H
                clear H
                have p252 : 0 ≤ (0 : Int) := (by omega)
                have q252 : 0 < (t232.length : Int) := of_decide_eq_true (by first | (with_reducible assumption) | assumption)
                obtain ⟨ad252, e252, hx252_0⟩ := Kd.at_string (Kd.R_reads' HO_3.out).2.2 0 p252 q252
                cases e252
                have qi252 : (0 < t232.length) = True := eq_true (by omega)
                (try rw [show ((0 : Int)).toNat = 0 from rfl] at hx252_0)
                (try rw [Addr.add_zero'] at hx252_0)
                replace p252 := eq_true p252
                replace q252 := eq_true q252
                go_wp2
                go_meet
                case rel => exact ⟨_, (false), (by first | rfl | (simp; done) | (simp [*]; done)), H', ⟨by have := HK1.out; have := HJ14.out; have := HJ31.out; have := HJ49.out; first | omega | exact Nat.le_refl _⟩, ⟨Rgn.rq HO_3.out⟩, ⟨Rgn.rq HO251.out⟩, ⟨Rgn.kb BK231.out⟩, ⟨Rgn.bq HB.out⟩⟩
              ·
               rw [if_neg c57] at H
               exact absurd H (by simp)
             case rest =>
              clear HC55
              try clear c2
              try clear c2b0
              try clear c2b1
              try clear hcv7
              try clear c9
              try clear c9b0
              try clear c36
              try clear c53
              obtain ⟨kq, x101_54, rfl, HA, HJ54, HO_3, HO_5, BK231, HB⟩ := hcut
              cases kq with
              | zero => exact absurd HA.out (by simp [spec_ParseLine.j4])
              | succ kj54 =>
               have H := HA.out
               clear HA
               simp only [spec_ParseLine.j4] at H
               by_cases c61 : x101_54 = true
               ·
                subst c61
                replace H := Rgn.ip H
                simp only [Option.some.injEq, Prod.mk.injEq] at H
                obtain ⟨rfl, rfl, rfl, rfl, rfl, rfl, rfl, rfl, rfl⟩ := H
                obtain ⟨Ao62, co62, eo62⟩ := Kd.R_slice HO_5.out
                subst eo62
                obtain ⟨hcz63_0, hcz63_1, hcz63_2, hcz63_3, hcz63_4, hcz63_5, hcz63_6, hcz63_7, hcz63_8, hfz63_0, hfz63_1, hfz63_2, hfz63_3, hfz63_4, hfz63_5, hfz63_6, hfz63_7, hfz63_8⟩ := Rgn.cf9 BK231.out
                go_wp2
                refine bodyPost_ret (results_cell_row rfl _ _ gb231 27 _ (0, 0) _ rfl (by exact Rgn.put9 (Rgn.kf BK231.out)) Tryd.underlying27 rfl (by kernel_rfl)) rfl ?_
                exact ⟨_, by first | rfl | (simp [errW_none, errW_some] <;> rfl) | (simp [*, errW_none, errW_some] <;> rfl), by (with_reducible repeat (first | apply Kd.R_alloc | apply Kd.R_drewN | apply Kd.R_drew)); exact Kd.R_mono (Kd.R_far (p := ⟨gb231, 8, none⟩) (Kd.R_far (p := ⟨gb231, 7, none⟩) (Kd.R_far (p := ⟨gb231, 6, none⟩) (Kd.R_far (p := ⟨gb231, 5, none⟩) (Kd.R_far (p := ⟨gb231, 4, none⟩) (Kd.R_far (p := ⟨gb231, 3, none⟩) (Kd.R_far (p := ⟨gb231, 2, none⟩) (Kd.R_far (p := ⟨gb231, 1, none⟩) (Kd.R_far (p := ⟨gb231, 0, none⟩) (Kd.R_types HO_5.out BK231.out (by decide)) (fun _ hk => hk.2) (.int .i64 5)) (fun _ hk => hk.2) (.int .i64 0)) (fun _ hk => hk.2) (.string (⟨#[]⟩ : ByteArray))) (fun _ hk => hk.2) (.string (⟨#[]⟩ : ByteArray))) (fun _ hk => hk.2) (.int .i64 0)) (fun _ hk => hk.2) (.int .i64 0)) (fun _ hk => hk.2) (.int .i64 0)) (fun _ hk => hk.2) (.string (⟨#[]⟩ : ByteArray))) (fun _ hk => hk.2) (.slice Ao62 t248.length co62)) (fun _ hk => trivial), Rgn.bq HB.out⟩
               ·
                replace c61 := Bool.eq_false_iff.mpr c61
                subst c61
                replace H := Rgn.im H
                by_cases c64 : 0 < (t232.length : Int)
                ·
                 rw [if_pos c64] at H
                 have c64b0 : decide (0 < (t232.length : Int)) = true := decide_eq_true c64
                 have c64b1 : decide (0 < t232.length) = true := decide_eq_true (by omega)
                 clear c64
                 by_cases c65 : (rdOf ByteArray.empty t232 0).toList = ([97, 114, 109] : List UInt8)
                 ·
                  rw [if_pos c65] at H
                  have c65b0 : ((rdOf ByteArray.empty t232 0).toList == ([97, 114, 109] : List UInt8)) = true := beq_iff_eq.mpr c65
                  have c65b1 : ((rdOf ByteArray.empty t232 0).toList != ([97, 114, 109] : List UInt8)) = false := bne_eq_false_iff_eq.mpr c65
                  clear c65
                  by_cases c66 : t249 = true
                  ·
                   subst c66
                   replace H := Rgn.ip H
                   by_cases c67 : (t248.length : Int) ≥ 1
                   ·
                    rw [if_pos c67] at H
                    have c67b0 : decide (1 ≤ (t248.length : Int)) = true := decide_eq_true c67
                    have c67b1 : decide (1 ≤ t248.length) = true := decide_eq_true (by omega)
                    clear c67
                    by_cases c68 : (t248.length : Int) ≤ 601
                    ·
                     rw [if_pos c68] at H
                     have c68b0 : decide ((t248.length : Int) ≤ 601) = true := decide_eq_true c68
                     have c68b1 : decide (t248.length ≤ 601) = true := decide_eq_true (by omega)
                     clear c68
                     by_cases c69 : 0 < (t248.length : Int)
                     ·
                      rw [if_pos c69] at H
                      have c69b0 : decide (0 < (t248.length : Int)) = true := decide_eq_true c69
                      have c69b1 : decide (0 < t248.length) = true := decide_eq_true (by omega)
                      clear c69
                      by_cases c70 : (rd t248 0) ≥ 1
                      ·
                       rw [if_pos c70] at H
                       have c70b0 : decide (1 ≤ (rd t248 0)) = true := decide_eq_true c70
                       clear c70
                       simp only [Option.some.injEq, Prod.mk.injEq] at H
                       obtain ⟨rfl, rfl, rfl, rfl, rfl, rfl, rfl, rfl, rfl⟩ := H
                       have p253 : 0 ≤ (0 : Int) := (by omega)
                       have q253 : 0 < (t232.length : Int) := of_decide_eq_true (by first | (with_reducible assumption) | assumption)
                       obtain ⟨ad253, e253, hx253_0⟩ := Kd.at_string (Kd.R_reads' HO_3.out).2.2 0 p253 q253
                       cases e253
                       have qi253 : (0 < t232.length) = True := eq_true (by omega)
                       (try rw [show ((0 : Int)).toNat = 0 from rfl] at hx253_0)
                       (try rw [Addr.add_zero'] at hx253_0)
                       replace p253 := eq_true p253
                       replace q253 := eq_true q253
                       obtain ⟨Ao71, co71, eo71⟩ := Kd.R_slice HO_5.out
                       subst eo71
                       have p254 : 0 ≤ (0 : Int) := (by omega)
                       have q254 : 0 < (t248.length : Int) := of_decide_eq_true (by first | (with_reducible assumption) | assumption)
                       obtain ⟨ad254, e254, hx254_0⟩ := Kd.at_int (Kd.R_reads' HO_5.out).2.2 0 p254 q254
                       cases e254
                       have qi254 : (0 < t248.length) = True := eq_true (by omega)
                       (try rw [show ((0 : Int)).toNat = 0 from rfl] at hx254_0)
                       (try rw [Addr.add_zero'] at hx254_0)
                       replace p254 := eq_true p254
                       replace q254 := eq_true q254
                       obtain ⟨hcz72_0, hcz72_1, hcz72_2, hcz72_3, hcz72_4, hcz72_5, hcz72_6, hcz72_7, hcz72_8, hfz72_0, hfz72_1, hfz72_2, hfz72_3, hfz72_4, hfz72_5, hfz72_6, hfz72_7, hfz72_8⟩ := Rgn.cf9 BK231.out
                       go_wp2
                       refine bodyPost_ret (results_cell_row rfl _ _ gb231 27 _ (0, 0) _ rfl (by exact Rgn.put9 (Rgn.kf BK231.out)) Tryd.underlying27 rfl (by kernel_rfl)) rfl ?_
                       exact ⟨_, by first | rfl | (simp [errW_none, errW_some] <;> rfl) | (simp [*, errW_none, errW_some] <;> rfl), by (with_reducible repeat (first | apply Kd.R_alloc | apply Kd.R_drewN | apply Kd.R_drew)); exact Kd.R_mono (Kd.R_far (p := ⟨gb231, 8, none⟩) (Kd.R_far (p := ⟨gb231, 7, none⟩) (Kd.R_far (p := ⟨gb231, 6, none⟩) (Kd.R_far (p := ⟨gb231, 5, none⟩) (Kd.R_far (p := ⟨gb231, 4, none⟩) (Kd.R_far (p := ⟨gb231, 3, none⟩) (Kd.R_far (p := ⟨gb231, 2, none⟩) (Kd.R_far (p := ⟨gb231, 1, none⟩) (Kd.R_far (p := ⟨gb231, 0, none⟩) (Kd.R_types HO_5.out BK231.out (by decide)) (fun _ hk => hk.2) (.int .i64 4)) (fun _ hk => hk.2) (.int .i64 0)) (fun _ hk => hk.2) (.string (⟨#[]⟩ : ByteArray))) (fun _ hk => hk.2) (.string (⟨#[]⟩ : ByteArray))) (fun _ hk => hk.2) (.int .i64 0)) (fun _ hk => hk.2) (.int .i64 0)) (fun _ hk => hk.2) (.int .i64 0)) (fun _ hk => hk.2) (.string (⟨#[]⟩ : ByteArray))) (fun _ hk => hk.2) (.slice (some ad254) t248.length co71)) (fun _ hk => trivial), Rgn.bq HB.out⟩
                      ·
                       rw [if_neg c70] at H
                       have c70b0 : decide (1 ≤ (rd t248 0)) = false := decide_eq_false c70
                       clear c70
                       simp only [Option.some.injEq, Prod.mk.injEq] at H
                       obtain ⟨rfl, rfl, rfl, rfl, rfl, rfl, rfl, rfl, rfl⟩ := H
                       have p253 : 0 ≤ (0 : Int) := (by omega)
                       have q253 : 0 < (t232.length : Int) := of_decide_eq_true (by first | (with_reducible assumption) | assumption)
                       obtain ⟨ad253, e253, hx253_0⟩ := Kd.at_string (Kd.R_reads' HO_3.out).2.2 0 p253 q253
                       cases e253
                       have qi253 : (0 < t232.length) = True := eq_true (by omega)
                       (try rw [show ((0 : Int)).toNat = 0 from rfl] at hx253_0)
                       (try rw [Addr.add_zero'] at hx253_0)
                       replace p253 := eq_true p253
                       replace q253 := eq_true q253
                       obtain ⟨Ao73, co73, eo73⟩ := Kd.R_slice HO_5.out
                       subst eo73
                       have p254 : 0 ≤ (0 : Int) := (by omega)
                       have q254 : 0 < (t248.length : Int) := of_decide_eq_true (by first | (with_reducible assumption) | assumption)
                       obtain ⟨ad254, e254, hx254_0⟩ := Kd.at_int (Kd.R_reads' HO_5.out).2.2 0 p254 q254
                       cases e254
                       have qi254 : (0 < t248.length) = True := eq_true (by omega)
                       (try rw [show ((0 : Int)).toNat = 0 from rfl] at hx254_0)
                       (try rw [Addr.add_zero'] at hx254_0)
                       replace p254 := eq_true p254
                       replace q254 := eq_true q254
                       obtain ⟨hcz74_0, hcz74_1, hcz74_2, hcz74_3, hcz74_4, hcz74_5, hcz74_6, hcz74_7, hcz74_8, hfz74_0, hfz74_1, hfz74_2, hfz74_3, hfz74_4, hfz74_5, hfz74_6, hfz74_7, hfz74_8⟩ := Rgn.cf9 BK231.out
                       go_wp2
                       refine bodyPost_ret (results_cell_row rfl _ _ gb231 27 _ (0, 0) _ rfl (by exact Rgn.put9 (Rgn.kf BK231.out)) Tryd.underlying27 rfl (by kernel_rfl)) rfl ?_
                       exact ⟨_, by first | rfl | (simp [errW_none, errW_some] <;> rfl) | (simp [*, errW_none, errW_some] <;> rfl), by first | exact Kd.R_nil _ _ _ _ _ | exact Kd.N_nil _ _ _ _ _ | exact Kd.V_nil _ _ _ _ _ | exact Kd.Q_nil _ _ _ _ _ | exact Kd.S_nil _ _ _ _ _, Rgn.bq HB.out⟩
                     ·
                      rw [if_neg c69] at H
                      exact absurd H (by simp)
                    ·
                     rw [if_neg c68] at H
                     have c68b0 : decide ((t248.length : Int) ≤ 601) = false := decide_eq_false c68
                     have c68b1 : decide (t248.length ≤ 601) = false := decide_eq_false (by omega)
                     clear c68
                     simp only [Option.some.injEq, Prod.mk.injEq] at H
                     obtain ⟨rfl, rfl, rfl, rfl, rfl, rfl, rfl, rfl, rfl⟩ := H
                     have p253 : 0 ≤ (0 : Int) := (by omega)
                     have q253 : 0 < (t232.length : Int) := of_decide_eq_true (by first | (with_reducible assumption) | assumption)
                     obtain ⟨ad253, e253, hx253_0⟩ := Kd.at_string (Kd.R_reads' HO_3.out).2.2 0 p253 q253
                     cases e253
                     have qi253 : (0 < t232.length) = True := eq_true (by omega)
                     (try rw [show ((0 : Int)).toNat = 0 from rfl] at hx253_0)
                     (try rw [Addr.add_zero'] at hx253_0)
                     replace p253 := eq_true p253
                     replace q253 := eq_true q253
                     obtain ⟨Ao75, co75, eo75⟩ := Kd.R_slice HO_5.out
                     subst eo75
                     obtain ⟨hcz76_0, hcz76_1, hcz76_2, hcz76_3, hcz76_4, hcz76_5, hcz76_6, hcz76_7, hcz76_8, hfz76_0, hfz76_1, hfz76_2, hfz76_3, hfz76_4, hfz76_5, hfz76_6, hfz76_7, hfz76_8⟩ := Rgn.cf9 BK231.out
                     go_wp2
                     refine bodyPost_ret (results_cell_row rfl _ _ gb231 27 _ (0, 0) _ rfl (by exact Rgn.put9 (Rgn.kf BK231.out)) Tryd.underlying27 rfl (by kernel_rfl)) rfl ?_
                     exact ⟨_, by first | rfl | (simp [errW_none, errW_some] <;> rfl) | (simp [*, errW_none, errW_some] <;> rfl), by first | exact Kd.R_nil _ _ _ _ _ | exact Kd.N_nil _ _ _ _ _ | exact Kd.V_nil _ _ _ _ _ | exact Kd.Q_nil _ _ _ _ _ | exact Kd.S_nil _ _ _ _ _, Rgn.bq HB.out⟩
                   ·
                    rw [if_neg c67] at H
                    have c67b0 : decide (1 ≤ (t248.length : Int)) = false := decide_eq_false c67
                    have c67b1 : decide (1 ≤ t248.length) = false := decide_eq_false (by omega)
                    clear c67
                    simp only [Option.some.injEq, Prod.mk.injEq] at H
                    obtain ⟨rfl, rfl, rfl, rfl, rfl, rfl, rfl, rfl, rfl⟩ := H
                    have p253 : 0 ≤ (0 : Int) := (by omega)
                    have q253 : 0 < (t232.length : Int) := of_decide_eq_true (by first | (with_reducible assumption) | assumption)
                    obtain ⟨ad253, e253, hx253_0⟩ := Kd.at_string (Kd.R_reads' HO_3.out).2.2 0 p253 q253
                    cases e253
                    have qi253 : (0 < t232.length) = True := eq_true (by omega)
                    (try rw [show ((0 : Int)).toNat = 0 from rfl] at hx253_0)
                    (try rw [Addr.add_zero'] at hx253_0)
                    replace p253 := eq_true p253
                    replace q253 := eq_true q253
                    obtain ⟨Ao77, co77, eo77⟩ := Kd.R_slice HO_5.out
                    subst eo77
                    obtain ⟨hcz78_0, hcz78_1, hcz78_2, hcz78_3, hcz78_4, hcz78_5, hcz78_6, hcz78_7, hcz78_8, hfz78_0, hfz78_1, hfz78_2, hfz78_3, hfz78_4, hfz78_5, hfz78_6, hfz78_7, hfz78_8⟩ := Rgn.cf9 BK231.out
                    go_wp2
                    refine bodyPost_ret (results_cell_row rfl _ _ gb231 27 _ (0, 0) _ rfl (by exact Rgn.put9 (Rgn.kf BK231.out)) Tryd.underlying27 rfl (by kernel_rfl)) rfl ?_
                    exact ⟨_, by first | rfl | (simp [errW_none, errW_some] <;> rfl) | (simp [*, errW_none, errW_some] <;> rfl), by first | exact Kd.R_nil _ _ _ _ _ | exact Kd.N_nil _ _ _ _ _ | exact Kd.V_nil _ _ _ _ _ | exact Kd.Q_nil _ _ _ _ _ | exact Kd.S_nil _ _ _ _ _, Rgn.bq HB.out⟩
                  ·
                   replace c66 := Bool.eq_false_iff.mpr c66
                   subst c66
                   replace H := Rgn.im H
                   simp only [Option.some.injEq, Prod.mk.injEq] at H
                   obtain ⟨rfl, rfl, rfl, rfl, rfl, rfl, rfl, rfl, rfl⟩ := H
                   have p253 : 0 ≤ (0 : Int) := (by omega)
                   have q253 : 0 < (t232.length : Int) := of_decide_eq_true (by first | (with_reducible assumption) | assumption)
                   obtain ⟨ad253, e253, hx253_0⟩ := Kd.at_string (Kd.R_reads' HO_3.out).2.2 0 p253 q253
                   cases e253
                   have qi253 : (0 < t232.length) = True := eq_true (by omega)
                   (try rw [show ((0 : Int)).toNat = 0 from rfl] at hx253_0)
                   (try rw [Addr.add_zero'] at hx253_0)
                   replace p253 := eq_true p253
                   replace q253 := eq_true q253
                   obtain ⟨hcz79_0, hcz79_1, hcz79_2, hcz79_3, hcz79_4, hcz79_5, hcz79_6, hcz79_7, hcz79_8, hfz79_0, hfz79_1, hfz79_2, hfz79_3, hfz79_4, hfz79_5, hfz79_6, hfz79_7, hfz79_8⟩ := Rgn.cf9 BK231.out
                   go_wp2
                   refine bodyPost_ret (results_cell_row rfl _ _ gb231 27 _ (0, 0) _ rfl (by exact Rgn.put9 (Rgn.kf BK231.out)) Tryd.underlying27 rfl (by kernel_rfl)) rfl ?_
                   exact ⟨_, by first | rfl | (simp [errW_none, errW_some] <;> rfl) | (simp [*, errW_none, errW_some] <;> rfl), by first | exact Kd.R_nil _ _ _ _ _ | exact Kd.N_nil _ _ _ _ _ | exact Kd.V_nil _ _ _ _ _ | exact Kd.Q_nil _ _ _ _ _ | exact Kd.S_nil _ _ _ _ _, Rgn.bq HB.out⟩
                 ·
                  rw [if_neg c65] at H
                  have c65b0 : ((rdOf ByteArray.empty t232 0).toList == ([97, 114, 109] : List UInt8)) = false := beq_eq_false_iff_ne.mpr c65
                  have c65b1 : ((rdOf ByteArray.empty t232 0).toList != ([97, 114, 109] : List UInt8)) = true := bne_iff_ne.mpr c65
                  simp only [Option.some.injEq, Prod.mk.injEq] at H
                  obtain ⟨rfl, rfl, rfl, rfl, rfl, rfl, rfl, rfl, rfl⟩ := H
                  have p253 : 0 ≤ (0 : Int) := (by omega)
                  have q253 : 0 < (t232.length : Int) := of_decide_eq_true (by first | (with_reducible assumption) | assumption)
                  obtain ⟨ad253, e253, hx253_0⟩ := Kd.at_string (Kd.R_reads' HO_3.out).2.2 0 p253 q253
                  cases e253
                  have qi253 : (0 < t232.length) = True := eq_true (by omega)
                  (try rw [show ((0 : Int)).toNat = 0 from rfl] at hx253_0)
                  (try rw [Addr.add_zero'] at hx253_0)
                  replace p253 := eq_true p253
                  replace q253 := eq_true q253
                  obtain ⟨hcz80_0, hcz80_1, hcz80_2, hcz80_3, hcz80_4, hcz80_5, hcz80_6, hcz80_7, hcz80_8, hfz80_0, hfz80_1, hfz80_2, hfz80_3, hfz80_4, hfz80_5, hfz80_6, hfz80_7, hfz80_8⟩ := Rgn.cf9 BK231.out
                  go_wp2
                  refine bodyPost_ret (results_cell_row rfl _ _ gb231 27 _ (0, 0) _ rfl (by exact Rgn.put9 (Rgn.kf BK231.out)) Tryd.underlying27 rfl (by kernel_rfl)) rfl ?_
                  exact ⟨_, by first | rfl | (simp [errW_none, errW_some] <;> rfl) | (simp [*, errW_none, errW_some] <;> rfl), by first | exact Kd.R_nil _ _ _ _ _ | exact Kd.N_nil _ _ _ _ _ | exact Kd.V_nil _ _ _ _ _ | exact Kd.Q_nil _ _ _ _ _ | exact Kd.S_nil _ _ _ _ _, Rgn.bq HB.out⟩
                ·
                 rw [if_neg c64] at H
                 exact absurd H (by simp)
            ·
             replace c53 := Bool.eq_false_iff.mpr c53
             subst c53
             replace H := Rgn.im H
             replace H := Option.bind_eq_some_iff.mp H
             obtain ⟨⟨t255, t256, t257, t258, t259, t260, t261, t262⟩, A810, H⟩ := H
             replace H : (if t262 = true then (some (1, t255, t256, t257, t258, t259, t260, t261, ([] : List Int))) else ((spec_l14Handled.f kj49 t232).bind fun bt264 => (if bt264.2.2.2.2.2.2.2 = true then (some (1, bt264.1, bt264.2.1, bt264.2.2.1, bt264.2.2.2.1, bt264.2.2.2.2.1, bt264.2.2.2.2.2.1, bt264.2.2.2.2.2.2.1, ([] : List Int))) else (some (0, 0, (⟨#[]⟩ : ByteArray), (⟨#[]⟩ : ByteArray), 0, 0, 0, (⟨#[]⟩ : ByteArray), ([] : List Int)))))) = some (r1, r2, r3, r4, r5, r6, r7, r8, r9) := H
             have A81 := Aside0.mk A810
             clear A810
             by_cases c82 : t262 = true
             ·
              subst c82
              replace H := Rgn.ip H
              simp only [Option.some.injEq, Prod.mk.injEq] at H
              obtain ⟨rfl, rfl, rfl, rfl, rfl, rfl, rfl, rfl, rfl⟩ := H
              go_wp2_with (first | ((with_reducible refine gate_callee (f := 30) rfl ?_); refine Rgn.gl (some 132) Tryd.func30 #[.slice Ao16 t232.length co16] ?_; (with_reducible refine (spec_l14Long.calls kj49 _ _ t232 t255 t256 t257 t258 t259 t260 t261 true _ ?side1 ?side2 A81.out).mono ?_); (case side1 => exact Rgn.cq (Kd.R_reads' HO_3.out).2.2); (case side2 => exact (Kd.R_reads' HO_3.out).2.1); rintro e w83 ⟨rfl, hb⟩; refine ⟨_, rfl, ?_⟩; replace HO_3 := Aside0.mk (Kd.R_below (Rgn.rq HO_3.out) hb); replace BK231 := Aside0.mk (Rgn.bb BK231.out hb); replace HB := Aside0.mk (below_step (Rgn.bq HB.out) hb); (try clear hb)) | ((with_reducible refine gate_dst (N := 7) rfl ?_); (try (refine gate_guard (by rfl) ?_; dsimp only)); refine Rgn.bx 7 #[.int .i64 0, .string (⟨#[]⟩ : ByteArray), .string (⟨#[]⟩ : ByteArray), .int .i64 0, .int .i64 0, .int .i64 0, .string (⟨#[]⟩ : ByteArray)] 24 ?_; intro gb263 hg w84 hbox hb; replace HO_3 := Aside0.mk (Kd.R_below (Rgn.rq HO_3.out) hb); have BK263 := Aside0.mk (hbox); have GW263 := Aside0.mk (Rgn.ge hg HB.out); have GE263 := Aside0.mk (Rgn.ge hg HB.out); replace HB := Aside0.mk (below_step (Rgn.bq HB.out) hb); have NB231_263 := Aside0.mk (Rgn.nl hg BK231.out); have NB263_231 := Aside0.mk (Rgn.ng hg BK231.out); replace BK231 := Aside0.mk (Rgn.bb BK231.out hb); clear hb hbox hg; have hnb85 := NB263_231.out; have hnc85 := NB231_263.out; obtain ⟨hcz86_0, hcz86_1, hcz86_2, hcz86_3, hcz86_4, hcz86_5, hcz86_6, hfz86_0, hfz86_1, hfz86_2, hfz86_3, hfz86_4, hfz86_5, hfz86_6⟩ := Rgn.cf7 BK263.out; obtain ⟨hcz87_0, hcz87_1, hcz87_2, hcz87_3, hcz87_4, hcz87_5, hcz87_6, hcz87_7, hcz87_8, hfz87_0, hfz87_1, hfz87_2, hfz87_3, hfz87_4, hfz87_5, hfz87_6, hfz87_7, hfz87_8⟩ := Rgn.cf9 BK231.out))
              refine bodyPost_ret (results_cell_row rfl _ _ gb231 27 _ (0, 0) _ rfl (by exact Rgn.put9 (Rgn.kf BK231.out)) Tryd.underlying27 rfl (by kernel_rfl)) rfl ?_
              exact ⟨_, by first | rfl | (simp [errW_none, errW_some] <;> rfl) | (simp [*, errW_none, errW_some] <;> rfl), by first | exact Kd.R_nil _ _ _ _ _ | exact Kd.N_nil _ _ _ _ _ | exact Kd.V_nil _ _ _ _ _ | exact Kd.Q_nil _ _ _ _ _ | exact Kd.S_nil _ _ _ _ _, Rgn.bq HB.out⟩
             ·
              replace c82 := Bool.eq_false_iff.mpr c82
              subst c82
              replace H := Rgn.im H
              replace H := Option.bind_eq_some_iff.mp H
              obtain ⟨⟨t264, t265, t266, t267, t268, t269, t270, t271⟩, A880, H⟩ := H
              replace H : (if t271 = true then (some (1, t264, t265, t266, t267, t268, t269, t270, ([] : List Int))) else (some (0, 0, (⟨#[]⟩ : ByteArray), (⟨#[]⟩ : ByteArray), 0, 0, 0, (⟨#[]⟩ : ByteArray), ([] : List Int)))) = some (r1, r2, r3, r4, r5, r6, r7, r8, r9) := H
              have A88 := Aside0.mk A880
              clear A880
              by_cases c89 : t271 = true
              ·
               subst c89
               replace H := Rgn.ip H
               simp only [Option.some.injEq, Prod.mk.injEq] at H
               obtain ⟨rfl, rfl, rfl, rfl, rfl, rfl, rfl, rfl, rfl⟩ := H
               go_wp2_with (first | ((with_reducible refine gate_callee (f := 30) rfl ?_); refine Rgn.gl (some 132) Tryd.func30 #[.slice Ao16 t232.length co16] ?_; (with_reducible refine (spec_l14Long.calls kj49 _ _ t232 t255 t256 t257 t258 t259 t260 t261 false _ ?side1 ?side2 A81.out).mono ?_); (case side1 => exact Rgn.cq (Kd.R_reads' HO_3.out).2.2); (case side2 => exact (Kd.R_reads' HO_3.out).2.1); rintro e w90 ⟨rfl, hb⟩; refine ⟨_, rfl, ?_⟩; replace HO_3 := Aside0.mk (Kd.R_below (Rgn.rq HO_3.out) hb); replace BK231 := Aside0.mk (Rgn.bb BK231.out hb); replace HB := Aside0.mk (below_step (Rgn.bq HB.out) hb); (try clear hb)) | ((with_reducible refine gate_dst (N := 7) rfl ?_); (try (refine gate_guard (by rfl) ?_; dsimp only)); refine Rgn.bx 7 #[.int .i64 0, .string (⟨#[]⟩ : ByteArray), .string (⟨#[]⟩ : ByteArray), .int .i64 0, .int .i64 0, .int .i64 0, .string (⟨#[]⟩ : ByteArray)] 24 ?_; intro gb263 hg w91 hbox hb; replace HO_3 := Aside0.mk (Kd.R_below (Rgn.rq HO_3.out) hb); have BK263 := Aside0.mk (hbox); have GW263 := Aside0.mk (Rgn.ge hg HB.out); have GE263 := Aside0.mk (Rgn.ge hg HB.out); replace HB := Aside0.mk (below_step (Rgn.bq HB.out) hb); have NB231_263 := Aside0.mk (Rgn.nl hg BK231.out); have NB263_231 := Aside0.mk (Rgn.ng hg BK231.out); replace BK231 := Aside0.mk (Rgn.bb BK231.out hb); clear hb hbox hg; have hnb92 := NB263_231.out; have hnc92 := NB231_263.out; obtain ⟨hcz93_0, hcz93_1, hcz93_2, hcz93_3, hcz93_4, hcz93_5, hcz93_6, hfz93_0, hfz93_1, hfz93_2, hfz93_3, hfz93_4, hfz93_5, hfz93_6⟩ := Rgn.cf7 BK263.out) | ((with_reducible refine gate_callee (f := 31) rfl ?_); refine Rgn.gl (some 140) Tryd.func31 #[.slice Ao16 t232.length co16] ?_; (with_reducible refine (spec_l14Handled.calls kj49 _ _ t232 t264 t265 t266 t267 t268 t269 t270 true _ ?side1 ?side2 A88.out).mono ?_); (case side1 => refine (Kd.R_reads' (e := 9) (base := w.heap.size) (ok := fun k_ => True) (n := t232.length) (c := co16) ?_).2.2; exact (Rgn.rq (Kd.R_mono (Kd.R_far (p := ⟨gb263, 6, none⟩) (Kd.R_far (p := ⟨gb263, 5, none⟩) (Kd.R_far (p := ⟨gb263, 4, none⟩) (Kd.R_far (p := ⟨gb263, 3, none⟩) (Kd.R_far (p := ⟨gb263, 2, none⟩) (Kd.R_far (p := ⟨gb263, 1, none⟩) (Kd.R_far (p := ⟨gb263, 0, none⟩) (Kd.R_types HO_3.out BK263.out (by decide)) (fun _ hk => hk.2) (.int .i64 t255)) (fun _ hk => hk.2) (.string t256)) (fun _ hk => hk.2) (.string t257)) (fun _ hk => hk.2) (.int .i64 t258)) (fun _ hk => hk.2) (.int .i64 t259)) (fun _ hk => hk.2) (.int .i64 t260)) (fun _ hk => hk.2) (.string t261)) (fun _ h_ => h_.1)))); (case side2 => exact (Kd.R_reads' HO_3.out).2.1); rintro e w94 ⟨rfl, hb⟩; refine ⟨_, rfl, ?_⟩; replace HO_3 := Aside0.mk (Kd.R_below (Rgn.rq (Kd.R_mono (Kd.R_far (p := ⟨gb263, 6, none⟩) (Kd.R_far (p := ⟨gb263, 5, none⟩) (Kd.R_far (p := ⟨gb263, 4, none⟩) (Kd.R_far (p := ⟨gb263, 3, none⟩) (Kd.R_far (p := ⟨gb263, 2, none⟩) (Kd.R_far (p := ⟨gb263, 1, none⟩) (Kd.R_far (p := ⟨gb263, 0, none⟩) (Kd.R_types HO_3.out BK263.out (by decide)) (fun _ hk => hk.2) (.int .i64 t255)) (fun _ hk => hk.2) (.string t256)) (fun _ hk => hk.2) (.string t257)) (fun _ hk => hk.2) (.int .i64 t258)) (fun _ hk => hk.2) (.int .i64 t259)) (fun _ hk => hk.2) (.int .i64 t260)) (fun _ hk => hk.2) (.string t261)) (fun _ h_ => h_.1))) hb); replace BK231 := Aside0.mk (blk_below (g := gb231) (o := .cells #[.int .i64 x232000_14, .int .i64 x232001_14, .string x232002_14, .string x232003_14, .int .i64 x232004_14, .int .i64 x232005_14, .int .i64 x232006_14, .string x232007_14, .slice none 0 0] 27 (0, 0)) (Rgn.kf BK231.out) hb); replace BK263 := Aside0.mk (blk_below (g := gb263) (o := .cells #[.int .i64 t255, .string t256, .string t257, .int .i64 t258, .int .i64 t259, .int .i64 t260, .string t261] 24 (0, 0)) (by exact Rgn.put7 (Rgn.kf BK263.out)) hb); replace HB := Aside0.mk (below_step (Rgn.bq HB.out) hb); (try clear hb); (try clear hk)) | ((with_reducible refine gate_dst (N := 9) rfl ?_); (try (refine gate_guard (by rfl) ?_; dsimp only)); refine Rgn.bx 9 #[.int .i64 0, .string (⟨#[]⟩ : ByteArray), .string (⟨#[]⟩ : ByteArray), .int .i64 0, .int .i64 0, .int .i64 0, .string (⟨#[]⟩ : ByteArray)] 24 ?_; intro gb272 hg w95 hbox hb; replace HO_3 := Aside0.mk (Kd.R_below (Rgn.rq HO_3.out) hb); have BK272 := Aside0.mk (hbox); have GW272 := Aside0.mk (Rgn.ge hg HB.out); have GE272 := Aside0.mk (Rgn.ge hg HB.out); replace HB := Aside0.mk (below_step (Rgn.bq HB.out) hb); have NB231_272 := Aside0.mk (Rgn.nl hg BK231.out); have NB272_231 := Aside0.mk (Rgn.ng hg BK231.out); replace BK231 := Aside0.mk (Rgn.bb BK231.out hb); have NB263_272 := Aside0.mk (Rgn.nl hg BK263.out); have NB272_263 := Aside0.mk (Rgn.ng hg BK263.out); replace BK263 := Aside0.mk (Rgn.bb BK263.out hb); clear hb hbox hg; have hnb96 := NB272_231.out; have hnc96 := NB231_272.out; have hnb97 := NB272_263.out; have hnc97 := NB263_272.out; obtain ⟨hcz98_0, hcz98_1, hcz98_2, hcz98_3, hcz98_4, hcz98_5, hcz98_6, hfz98_0, hfz98_1, hfz98_2, hfz98_3, hfz98_4, hfz98_5, hfz98_6⟩ := Rgn.cf7 BK272.out; obtain ⟨hcz99_0, hcz99_1, hcz99_2, hcz99_3, hcz99_4, hcz99_5, hcz99_6, hcz99_7, hcz99_8, hfz99_0, hfz99_1, hfz99_2, hfz99_3, hfz99_4, hfz99_5, hfz99_6, hfz99_7, hfz99_8⟩ := Rgn.cf9 BK231.out))
               refine bodyPost_ret (results_cell_row rfl _ _ gb231 27 _ (0, 0) _ rfl (by exact Rgn.put9 (Rgn.kf BK231.out)) Tryd.underlying27 rfl (by kernel_rfl)) rfl ?_
               exact ⟨_, by first | rfl | (simp [errW_none, errW_some] <;> rfl) | (simp [*, errW_none, errW_some] <;> rfl), by first | exact Kd.R_nil _ _ _ _ _ | exact Kd.N_nil _ _ _ _ _ | exact Kd.V_nil _ _ _ _ _ | exact Kd.Q_nil _ _ _ _ _ | exact Kd.S_nil _ _ _ _ _, Rgn.bq HB.out⟩
              ·
               replace c89 := Bool.eq_false_iff.mpr c89
               subst c89
               replace H := Rgn.im H
               simp only [Option.some.injEq, Prod.mk.injEq] at H
               obtain ⟨rfl, rfl, rfl, rfl, rfl, rfl, rfl, rfl, rfl⟩ := H
               go_wp2_with (first | ((with_reducible refine gate_callee (f := 30) rfl ?_); refine Rgn.gl (some 132) Tryd.func30 #[.slice Ao16 t232.length co16] ?_; (with_reducible refine (spec_l14Long.calls kj49 _ _ t232 t255 t256 t257 t258 t259 t260 t261 false _ ?side1 ?side2 A81.out).mono ?_); (case side1 => exact Rgn.cq (Kd.R_reads' HO_3.out).2.2); (case side2 => exact (Kd.R_reads' HO_3.out).2.1); rintro e w100 ⟨rfl, hb⟩; refine ⟨_, rfl, ?_⟩; replace HO_3 := Aside0.mk (Kd.R_below (Rgn.rq HO_3.out) hb); replace BK231 := Aside0.mk (Rgn.bb BK231.out hb); replace HB := Aside0.mk (below_step (Rgn.bq HB.out) hb); (try clear hb)) | ((with_reducible refine gate_dst (N := 7) rfl ?_); (try (refine gate_guard (by rfl) ?_; dsimp only)); refine Rgn.bx 7 #[.int .i64 0, .string (⟨#[]⟩ : ByteArray), .string (⟨#[]⟩ : ByteArray), .int .i64 0, .int .i64 0, .int .i64 0, .string (⟨#[]⟩ : ByteArray)] 24 ?_; intro gb263 hg w101 hbox hb; replace HO_3 := Aside0.mk (Kd.R_below (Rgn.rq HO_3.out) hb); have BK263 := Aside0.mk (hbox); have GW263 := Aside0.mk (Rgn.ge hg HB.out); have GE263 := Aside0.mk (Rgn.ge hg HB.out); replace HB := Aside0.mk (below_step (Rgn.bq HB.out) hb); have NB231_263 := Aside0.mk (Rgn.nl hg BK231.out); have NB263_231 := Aside0.mk (Rgn.ng hg BK231.out); replace BK231 := Aside0.mk (Rgn.bb BK231.out hb); clear hb hbox hg; have hnb102 := NB263_231.out; have hnc102 := NB231_263.out; obtain ⟨hcz103_0, hcz103_1, hcz103_2, hcz103_3, hcz103_4, hcz103_5, hcz103_6, hfz103_0, hfz103_1, hfz103_2, hfz103_3, hfz103_4, hfz103_5, hfz103_6⟩ := Rgn.cf7 BK263.out) | ((with_reducible refine gate_callee (f := 31) rfl ?_); refine Rgn.gl (some 140) Tryd.func31 #[.slice Ao16 t232.length co16] ?_; (with_reducible refine (spec_l14Handled.calls kj49 _ _ t232 t264 t265 t266 t267 t268 t269 t270 false _ ?side1 ?side2 A88.out).mono ?_); (case side1 => refine (Kd.R_reads' (e := 9) (base := w.heap.size) (ok := fun k_ => True) (n := t232.length) (c := co16) ?_).2.2; exact (Rgn.rq (Kd.R_mono (Kd.R_far (p := ⟨gb263, 6, none⟩) (Kd.R_far (p := ⟨gb263, 5, none⟩) (Kd.R_far (p := ⟨gb263, 4, none⟩) (Kd.R_far (p := ⟨gb263, 3, none⟩) (Kd.R_far (p := ⟨gb263, 2, none⟩) (Kd.R_far (p := ⟨gb263, 1, none⟩) (Kd.R_far (p := ⟨gb263, 0, none⟩) (Kd.R_types HO_3.out BK263.out (by decide)) (fun _ hk => hk.2) (.int .i64 t255)) (fun _ hk => hk.2) (.string t256)) (fun _ hk => hk.2) (.string t257)) (fun _ hk => hk.2) (.int .i64 t258)) (fun _ hk => hk.2) (.int .i64 t259)) (fun _ hk => hk.2) (.int .i64 t260)) (fun _ hk => hk.2) (.string t261)) (fun _ h_ => h_.1)))); (case side2 => exact (Kd.R_reads' HO_3.out).2.1); rintro e w104 ⟨rfl, hb⟩; refine ⟨_, rfl, ?_⟩; replace HO_3 := Aside0.mk (Kd.R_below (Rgn.rq (Kd.R_mono (Kd.R_far (p := ⟨gb263, 6, none⟩) (Kd.R_far (p := ⟨gb263, 5, none⟩) (Kd.R_far (p := ⟨gb263, 4, none⟩) (Kd.R_far (p := ⟨gb263, 3, none⟩) (Kd.R_far (p := ⟨gb263, 2, none⟩) (Kd.R_far (p := ⟨gb263, 1, none⟩) (Kd.R_far (p := ⟨gb263, 0, none⟩) (Kd.R_types HO_3.out BK263.out (by decide)) (fun _ hk => hk.2) (.int .i64 t255)) (fun _ hk => hk.2) (.string t256)) (fun _ hk => hk.2) (.string t257)) (fun _ hk => hk.2) (.int .i64 t258)) (fun _ hk => hk.2) (.int .i64 t259)) (fun _ hk => hk.2) (.int .i64 t260)) (fun _ hk => hk.2) (.string t261)) (fun _ h_ => h_.1))) hb); replace BK231 := Aside0.mk (blk_below (g := gb231) (o := .cells #[.int .i64 x232000_14, .int .i64 x232001_14, .string x232002_14, .string x232003_14, .int .i64 x232004_14, .int .i64 x232005_14, .int .i64 x232006_14, .string x232007_14, .slice none 0 0] 27 (0, 0)) (Rgn.kf BK231.out) hb); replace BK263 := Aside0.mk (blk_below (g := gb263) (o := .cells #[.int .i64 t255, .string t256, .string t257, .int .i64 t258, .int .i64 t259, .int .i64 t260, .string t261] 24 (0, 0)) (by exact Rgn.put7 (Rgn.kf BK263.out)) hb); replace HB := Aside0.mk (below_step (Rgn.bq HB.out) hb); (try clear hb); (try clear hk)) | ((with_reducible refine gate_dst (N := 9) rfl ?_); (try (refine gate_guard (by rfl) ?_; dsimp only)); refine Rgn.bx 9 #[.int .i64 0, .string (⟨#[]⟩ : ByteArray), .string (⟨#[]⟩ : ByteArray), .int .i64 0, .int .i64 0, .int .i64 0, .string (⟨#[]⟩ : ByteArray)] 24 ?_; intro gb272 hg w105 hbox hb; replace HO_3 := Aside0.mk (Kd.R_below (Rgn.rq HO_3.out) hb); have BK272 := Aside0.mk (hbox); have GW272 := Aside0.mk (Rgn.ge hg HB.out); have GE272 := Aside0.mk (Rgn.ge hg HB.out); replace HB := Aside0.mk (below_step (Rgn.bq HB.out) hb); have NB231_272 := Aside0.mk (Rgn.nl hg BK231.out); have NB272_231 := Aside0.mk (Rgn.ng hg BK231.out); replace BK231 := Aside0.mk (Rgn.bb BK231.out hb); have NB263_272 := Aside0.mk (Rgn.nl hg BK263.out); have NB272_263 := Aside0.mk (Rgn.ng hg BK263.out); replace BK263 := Aside0.mk (Rgn.bb BK263.out hb); clear hb hbox hg; have hnb106 := NB272_231.out; have hnc106 := NB231_272.out; have hnb107 := NB272_263.out; have hnc107 := NB263_272.out; obtain ⟨hcz108_0, hcz108_1, hcz108_2, hcz108_3, hcz108_4, hcz108_5, hcz108_6, hfz108_0, hfz108_1, hfz108_2, hfz108_3, hfz108_4, hfz108_5, hfz108_6⟩ := Rgn.cf7 BK272.out; obtain ⟨hcz109_0, hcz109_1, hcz109_2, hcz109_3, hcz109_4, hcz109_5, hcz109_6, hcz109_7, hcz109_8, hfz109_0, hfz109_1, hfz109_2, hfz109_3, hfz109_4, hfz109_5, hfz109_6, hfz109_7, hfz109_8⟩ := Rgn.cf9 BK231.out))
               refine bodyPost_ret (results_cell_row rfl _ _ gb231 27 _ (0, 0) _ rfl (by exact Rgn.put9 (Rgn.kf BK231.out)) Tryd.underlying27 rfl (by kernel_rfl)) rfl ?_
               exact ⟨_, by first | rfl | (simp [errW_none, errW_some] <;> rfl) | (simp [*, errW_none, errW_some] <;> rfl), by first | exact Kd.R_nil _ _ _ _ _ | exact Kd.N_nil _ _ _ _ _ | exact Kd.V_nil _ _ _ _ _ | exact Kd.Q_nil _ _ _ _ _ | exact Kd.S_nil _ _ _ _ _, Rgn.bq HB.out⟩

end Go.Proofs.YtkehfdadplpaeaaDoor.PFnExactParseLine
