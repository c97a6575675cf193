-- written by a program of this session (wip/src/print2.py)
import Derived.Test.YtkehfdadplpaeaaDoorPFnExactParseLinex0
import Derived.Test.YtkehfdadplpaeaaDoorPFnExactParseLinex3
import Derived.Test.YtkehfdadplpaeaaDoorPFnExactParseLinex4
namespace Go.Proofs.YtkehfdadplpaeaaDoor.PFnExactParseLine
open Go.RowKit Go.Proofs.YtkehfdadplpaeaaDoorW.PrintWords Go.Proofs.YtkehfdadplpaeaaDoorW.PrintLast Go.Proofs.YtkehfdadplpaeaaDoorW.PrintMore
attribute [local go_sem] max2_int min2_int max_two min_two max_three min_three max_four min_four   -- for this text's walks alone
set_option linter.unusedVariables false
set_option linter.unusedSimpArgs false

/-! ### spec_l14Handled: function 31 -/
mutual
def spec_l14Handled.j0 : Nat → List ByteArray → Bool → Int → ByteArray → ByteArray → Int → Int → Int → ByteArray → Option (Int × ByteArray × ByteArray × Int × Int × Int × ByteArray × Bool)
 | 0, _, _, _, _, _, _, _, _, _ => none
 | k + 1, x0, x33, x210000, x210001, x210002, x210003, x210004, x210005, x210006 => if x33 = true then (some (13, x210001, x210002, x210003, x210004, x210005, x210006, true)) else (if 0 < (x0.length : Int) then (if (rdOf ByteArray.empty x0 0).toList = ([102, 115, 116, 97, 116] : List UInt8) then (spec_l14Handled.j1 k x0 ((x0.length : Int) == 2) x210000 x210001 x210002 x210003 x210004 x210005 x210006) else (spec_l14Handled.j1 k x0 false x210000 x210001 x210002 x210003 x210004 x210005 x210006)) else (none))
def spec_l14Handled.j1 : Nat → List ByteArray → Bool → Int → ByteArray → ByteArray → Int → Int → Int → ByteArray → Option (Int × ByteArray × ByteArray × Int × Int × Int × ByteArray × Bool)
 | 0, _, _, _, _, _, _, _, _, _ => none
 | k + 1, x0, x45, x210000, x210001, x210002, x210003, x210004, x210005, x210006 => if x45 = true then (some (16, x210001, x210002, x210003, x210004, x210005, x210006, true)) else (if 0 < (x0.length : Int) then (if (rdOf ByteArray.empty x0 0).toList = ([102, 116, 114, 117, 110, 99] : List UInt8) then (spec_l14Handled.j2 k x0 ((x0.length : Int) == 3) x210000 x210001 x210002 x210003 x210004 x210005 x210006) else (spec_l14Handled.j2 k x0 false x210000 x210001 x210002 x210003 x210004 x210005 x210006)) else (none))
def spec_l14Handled.j2 : Nat → List ByteArray → Bool → Int → ByteArray → ByteArray → Int → Int → Int → ByteArray → Option (Int × ByteArray × ByteArray × Int × Int × Int × ByteArray × Bool)
 | 0, _, _, _, _, _, _, _, _, _ => none
 | k + 1, x0, x57, x210000, x210001, x210002, x210003, x210004, x210005, x210006 => if x57 = true then (if 2 < (x0.length : Int) then ((spec_l14Number.f k (rdOf ByteArray.empty x0 2)).bind fun bt214 => (some (12, x210001, x210002, x210003, x210004, bt214.1, x210006, bt214.2))) else (none)) else (if 0 < (x0.length : Int) then (if (rdOf ByteArray.empty x0 0).toList = ([112, 114, 101, 97, 100] : List UInt8) then (spec_l14Handled.j3 k x0 ((x0.length : Int) == 4) x210000 x210001 x210002 x210003 x210004 x210005 x210006) else (spec_l14Handled.j3 k x0 false x210000 x210001 x210002 x210003 x210004 x210005 x210006)) else (none))
def spec_l14Handled.j3 : Nat → List ByteArray → Bool → Int → ByteArray → ByteArray → Int → Int → Int → ByteArray → Option (Int × ByteArray × ByteArray × Int × Int × Int × ByteArray × Bool)
 | 0, _, _, _, _, _, _, _, _, _ => none
 | k + 1, x0, x79, x210000, x210001, x210002, x210003, x210004, x210005, x210006 => if x79 = true then (if 2 < (x0.length : Int) then ((spec_l14Number.f k (rdOf ByteArray.empty x0 2)).bind fun bt218 => (if 3 < (x0.length : Int) then ((spec_l14Number.f k (rdOf ByteArray.empty x0 3)).bind fun bt221 => (if bt218.2 = true then (some (15, x210001, x210002, x210003, bt218.1, bt221.1, x210006, bt221.2)) else (some (15, x210001, x210002, x210003, bt218.1, bt221.1, x210006, false)))) else (none))) else (none)) else (if 0 < (x0.length : Int) then (if (rdOf ByteArray.empty x0 0).toList = ([112, 119, 114, 105, 116, 101] : List UInt8) then (spec_l14Handled.j4 k x0 ((x0.length : Int) == 4) x210000 x210001 x210002 x210003 x210004 x210005 x210006) else (spec_l14Handled.j4 k x0 false x210000 x210001 x210002 x210003 x210004 x210005 x210006)) else (none))
def spec_l14Handled.j4 : Nat → List ByteArray → Bool → Int → ByteArray → ByteArray → Int → Int → Int → ByteArray → Option (Int × ByteArray × ByteArray × Int × Int × Int × ByteArray × Bool)
 | 0, _, _, _, _, _, _, _, _, _ => none
 | k + 1, x0, x113, x210000, x210001, x210002, x210003, x210004, x210005, x210006 => if x113 = true then (if 2 < (x0.length : Int) then ((spec_l14Number.f k (rdOf ByteArray.empty x0 2)).bind fun bt225 => (if 3 < (x0.length : Int) then ((spec_Unquote.f k (rdOf ByteArray.empty x0 3)).bind fun bt228 => (if bt225.2 = true then (some (11, x210001, x210002, x210003, bt225.1, x210005, bt228.2, bt228.1)) else (some (11, x210001, x210002, x210003, bt225.1, x210005, bt228.2, false)))) else (none))) else (none)) else (some (x210000, x210001, x210002, x210003, x210004, x210005, x210006, false))
end
def spec_l14Handled.f (k : Nat) (l0 : List ByteArray) : Option (Int × ByteArray × ByteArray × Int × Int × Int × ByteArray × Bool) := if (l0.length : Int) < 2 then (some (0, (⟨#[]⟩ : ByteArray), (⟨#[]⟩ : ByteArray), 0, 0, 0, (⟨#[]⟩ : ByteArray), false)) else (if 1 < (l0.length : Int) then ((spec_l14Number.f k (rdOf ByteArray.empty l0 1)).bind fun bt207 => (if bt207.2 = true then (if 0 < (l0.length : Int) then (if (rdOf ByteArray.empty l0 0).toList = ([99, 108, 111, 115, 101] : List UInt8) then (spec_l14Handled.j0 k l0 ((l0.length : Int) == 2) 0 (⟨#[]⟩ : ByteArray) (⟨#[]⟩ : ByteArray) bt207.1 0 0 (⟨#[]⟩ : ByteArray)) else (spec_l14Handled.j0 k l0 false 0 (⟨#[]⟩ : ByteArray) (⟨#[]⟩ : ByteArray) bt207.1 0 0 (⟨#[]⟩ : ByteArray))) else (none)) else (some (0, (⟨#[]⟩ : ByteArray), (⟨#[]⟩ : ByteArray), bt207.1, 0, 0, (⟨#[]⟩ : ByteArray), false)))) else (none))
def spec_l14Handled.T31 : Bool × List (List Nat × List Nat) := (true, [([], []), ([], []), ([1], [1]), ([2], [2]), ([3, 2], [2, 3]), ([2, 4], [2, 4]), ([0, 2, 0], [0]), ([5, 6, 0, 1, 2, 3, 4, 5, 6], [5])])
def spec_l14Handled.B31 : List Nat := [0, 0, 2, 6, 14, 30, 7, 127]
theorem spec_l14Handled.tab31 : rtab .any (opsOf Tryd.f31 31) = spec_l14Handled.T31 := by kernel_rfl
theorem spec_l14Handled.bits31 : waitsOk spec_l14Handled.T31.2 spec_l14Handled.B31 = true := by kernel_rfl
set_option maxHeartbeats 8000000 in
set_option maxRecDepth 100000 in
theorem spec_l14Handled.calls (k : Nat) (A0 : Option Addr) (c0 : Nat) (l0 : List ByteArray) (r1 : Int) (r2 : ByteArray) (r3 : ByteArray) (r4 : Int) (r5 : Int) (r6 : Int) (r7 : ByteArray) (r8 : Bool) (w : World) (hr0 : Kd.C Kd.string w A0 l0.length l0) (hc0 : l0.length ≤ c0) (h : spec_l14Handled.f k l0 = some (r1, r2, r3, r4, r5, r6, r7, r8)) :
  Calls Tryd.prog 31 #[.slice A0 l0.length c0] w fun e w' => e = .returned (.tuple #[.agg #[.int .i64 r1, .string r2, .string r3, .int .i64 r4, .int .i64 r5, .int .i64 r6, .string r7], .bool r8]) ∧ Below w.heap.size w w' := by
 have hu24 := Tryd.underlying24
 have hu77 := Tryd.underlying77
 have HR0 := Aside0.mk hr0
 have HC0 := Aside0.mk hc0
 clear hr0 hc0
 have HB := Aside0.mk (Below.refl w.heap.size w)
 have H : (if (l0.length : Int) < 2 then (some (0, (⟨#[]⟩ : ByteArray), (⟨#[]⟩ : ByteArray), 0, 0, 0, (⟨#[]⟩ : ByteArray), false)) else (if 1 < (l0.length : Int) then ((spec_l14Number.f k (rdOf ByteArray.empty l0 1)).bind fun bt207 => (if bt207.2 = true then (if 0 < (l0.length : Int) then (if (rdOf ByteArray.empty l0 0).toList = ([99, 108, 111, 115, 101] : List UInt8) then (spec_l14Handled.j0 k l0 ((l0.length : Int) == 2) 0 (⟨#[]⟩ : ByteArray) (⟨#[]⟩ : ByteArray) bt207.1 0 0 (⟨#[]⟩ : ByteArray)) else (spec_l14Handled.j0 k l0 false 0 (⟨#[]⟩ : ByteArray) (⟨#[]⟩ : ByteArray) bt207.1 0 0 (⟨#[]⟩ : ByteArray))) else (none)) else (some (0, (⟨#[]⟩ : ByteArray), (⟨#[]⟩ : ByteArray), bt207.1, 0, 0, (⟨#[]⟩ : ByteArray), false)))) else (none))) = some (r1, r2, r3, r4, r5, r6, r7, r8) := h
 clear h
 by_cases c2 : (l0.length : Int) < 2
 ·
  rw [if_pos c2] at H
  have c2b0 : decide ((l0.length : Int) < 2) = true := decide_eq_true c2
  have c2b1 : decide (l0.length < 2) = true := decide_eq_true (by omega)
  clear c2
  simp only [Option.some.injEq, Prod.mk.injEq] at H
  obtain ⟨rfl, rfl, rfl, rfl, rfl, rfl, rfl, rfl⟩ := H
  go_enter Tryd.func31, Tryd.ntmps31
  go_wp2_with (first | ((with_reducible refine gate_dst (N := 2) rfl ?_); (try (refine gate_guard (by rfl) ?_; dsimp only)); refine Rgn.bx 2 #[.int .i64 0, .string (⟨#[]⟩ : ByteArray), .string (⟨#[]⟩ : ByteArray), .int .i64 0, .int .i64 0, .int .i64 0, .string (⟨#[]⟩ : ByteArray)] 24 ?_; intro gb205 hg w3 hbox hb; have BK205 := Aside0.mk (hbox); have GW205 := Aside0.mk (Rgn.ge hg HB.out); have GE205 := Aside0.mk (Rgn.ge hg HB.out); replace HB := Aside0.mk (below_step (Rgn.bq HB.out) hb); clear hb hbox hg; obtain ⟨hcz4_0, hcz4_1, hcz4_2, hcz4_3, hcz4_4, hcz4_5, hcz4_6, hfz4_0, hfz4_1, hfz4_2, hfz4_3, hfz4_4, hfz4_5, hfz4_6⟩ := Rgn.cf7 BK205.out))
  refine bodyPost_ret (results_ct rfl _ _ gb205 24 _ (0, 0) _ rfl (by exact Rgn.put7 (Rgn.kf BK205.out)) Tryd.underlying24 rfl (by kernel_rfl)) rfl ?_
  exact ⟨by first | rfl | (simp [errW_none, errW_some] <;> rfl) | (simp [*, errW_none, errW_some] <;> rfl), Rgn.bq HB.out⟩
 ·
  rw [if_neg c2] at H
  have c2b0 : decide ((l0.length : Int) < 2) = false := decide_eq_false c2
  have c2b1 : decide (l0.length < 2) = false := decide_eq_false (by omega)
  clear c2
  by_cases c5 : 1 < (l0.length : Int)
  ·
   rw [if_pos c5] at H
   have c5b0 : decide (1 < (l0.length : Int)) = true := decide_eq_true c5
   have c5b1 : decide (1 < l0.length) = true := decide_eq_true (by omega)
   clear c5
   replace H := Option.bind_eq_some_iff.mp H
   obtain ⟨⟨t207, t208⟩, A60, H⟩ := H
   replace H : (if t208 = true then (if 0 < (l0.length : Int) then (if (rdOf ByteArray.empty l0 0).toList = ([99, 108, 111, 115, 101] : List UInt8) then (spec_l14Handled.j0 k l0 ((l0.length : Int) == 2) 0 (⟨#[]⟩ : ByteArray) (⟨#[]⟩ : ByteArray) t207 0 0 (⟨#[]⟩ : ByteArray)) else (spec_l14Handled.j0 k l0 false 0 (⟨#[]⟩ : ByteArray) (⟨#[]⟩ : ByteArray) t207 0 0 (⟨#[]⟩ : ByteArray))) else (none)) else (some (0, (⟨#[]⟩ : ByteArray), (⟨#[]⟩ : ByteArray), t207, 0, 0, (⟨#[]⟩ : ByteArray), false))) = some (r1, r2, r3, r4, r5, r6, r7, r8) := H
   have A6 := Aside0.mk A60
   clear A60
   by_cases c7 : t208 = true
   ·
    subst c7
    replace H := Rgn.ip H
    have HC8 := Aside0.mk H
    clear H
    go_enter Tryd.func31, Tryd.ntmps31
    go_upto_region 7 with (first | ((with_reducible refine gate_dst (N := 2) rfl ?_); (try (refine gate_guard (by rfl) ?_; dsimp only)); refine Rgn.bx 2 #[.int .i64 0, .string (⟨#[]⟩ : ByteArray), .string (⟨#[]⟩ : ByteArray), .int .i64 0, .int .i64 0, .int .i64 0, .string (⟨#[]⟩ : ByteArray)] 24 ?_; intro gb205 hg w9 hbox hb; have BK205 := Aside0.mk (hbox); have GW205 := Aside0.mk (Rgn.ge hg HB.out); have GE205 := Aside0.mk (Rgn.ge hg HB.out); replace HB := Aside0.mk (below_step (Rgn.bq HB.out) hb); clear hb hbox hg; have p206 : 0 ≤ (1 : Int) := (by omega); have q206 : 1 < (l0.length : Int) := of_decide_eq_true (by first | (with_reducible assumption) | assumption); obtain ⟨ad206, e206, hx206_0⟩ := Kd.at_string HR0.out 1 p206 q206; cases e206; (try simp only [show (1 : Int).toNat = 1 from rfl, Nat.reduceMul, Nat.reduceEqDiff, Go.Addr.add, ↓reduceIte] at hx206_0); have qi206 : (1 < l0.length) = True := eq_true (by omega); (try rw [show ((1 : Int)).toNat = 1 from rfl] at hx206_0); replace hx206_0 := Rgn.hx HB.out hx206_0; replace p206 := eq_true p206; replace q206 := eq_true q206) | ((with_reducible refine gate_callee (f := 60) rfl ?_); refine Rgn.gl (some 24) Tryd.func60 #[.string (rdOf ByteArray.empty l0 1)] ?_; (with_reducible refine (spec_l14Number.calls k (rdOf ByteArray.empty l0 1) t207 true _ A6.out).mono ?_); rintro e w10 ⟨rfl, hb⟩; refine ⟨_, rfl, ?_⟩; replace BK205 := Aside0.mk (Rgn.bb BK205.out hb); replace HB := Aside0.mk (below_step (Rgn.bq HB.out) hb); (try clear hb)) | ((with_reducible refine gate_dst (N := 6) rfl ?_); (try (refine gate_guard (by rfl) ?_; dsimp only)); refine Rgn.bx 6 #[.int .i64 0, .string (⟨#[]⟩ : ByteArray), .string (⟨#[]⟩ : ByteArray), .int .i64 0, .int .i64 0, .int .i64 0, .string (⟨#[]⟩ : ByteArray)] 24 ?_; intro gb209 hg w11 hbox hb; have BK209 := Aside0.mk (hbox); have GW209 := Aside0.mk (Rgn.ge hg HB.out); have GE209 := Aside0.mk (Rgn.ge hg HB.out); replace HB := Aside0.mk (below_step (Rgn.bq HB.out) hb); have NB205_209 := Aside0.mk (Rgn.nl hg BK205.out); have NB209_205 := Aside0.mk (Rgn.ng hg BK205.out); replace BK205 := Aside0.mk (Rgn.bb BK205.out hb); clear hb hbox hg; have hnb12 := NB209_205.out; have hnc12 := NB205_209.out; obtain ⟨hcz13_0, hcz13_1, hcz13_2, hcz13_3, hcz13_4, hcz13_5, hcz13_6, hfz13_0, hfz13_1, hfz13_2, hfz13_3, hfz13_4, hfz13_5, hfz13_6⟩ := Rgn.cf7 BK209.out))
    (try simp only [Act.put, List.setIfInBounds_toArray, List.set_cons_zero, List.set_cons_succ])
    go_cut [33] from 33 to 33 (fun v33 wc => ∃ (kq : Nat) (x33_7 : Bool), v33 = .bool x33_7 ∧ Aside0 (spec_l14Handled.j0 kq l0 x33_7 0 (⟨#[]⟩ : ByteArray) (⟨#[]⟩ : ByteArray) t207 0 0 (⟨#[]⟩ : ByteArray) = some (r1, r2, r3, r4, r5, r6, r7, r8)) ∧ Aside0 (kq ≤ k) ∧ Aside0 (wc.heap[gb205]? = some (.cells #[.int .i64 0, .string (⟨#[]⟩ : ByteArray), .string (⟨#[]⟩ : ByteArray), .int .i64 0, .int .i64 0, .int .i64 0, .string (⟨#[]⟩ : ByteArray)] 24 (0, 0))) ∧ Aside0 (wc.heap[gb209]? = some (.cells #[.int .i64 0, .string (⟨#[]⟩ : ByteArray), .string (⟨#[]⟩ : ByteArray), .int .i64 t207, .int .i64 0, .int .i64 0, .string (⟨#[]⟩ : ByteArray)] 24 (0, 0))) ∧ Aside0 (Below w.heap.size w wc))
    case first =>
     have H := HC8.out
     clear HC8
     by_cases c14 : 0 < (l0.length : Int)
     ·
      rw [if_pos c14] at H
      have c14b0 : decide (0 < (l0.length : Int)) = true := decide_eq_true c14
      have c14b1 : decide (0 < l0.length) = true := decide_eq_true (by omega)
      clear c14
      (first | rw [c14b0] | (simp only [i64_w, i32_w]; rw [c14b0]) | skip)
      by_cases c15 : (rdOf ByteArray.empty l0 0).toList = ([99, 108, 111, 115, 101] : List UInt8)
      ·
       rw [if_pos c15] at H
       have c15b0 : ((rdOf ByteArray.empty l0 0).toList == ([99, 108, 111, 115, 101] : List UInt8)) = true := beq_iff_eq.mpr c15
       have c15b1 : ((rdOf ByteArray.empty l0 0).toList != ([99, 108, 111, 115, 101] : List UInt8)) = false := bne_eq_false_iff_eq.mpr c15
       clear c15
       have H' := Aside0.mk H
       clear H
       have p210 : 0 ≤ (0 : Int) := (by omega)
       have q210 : 0 < (l0.length : Int) := of_decide_eq_true (by first | (with_reducible assumption) | assumption)
       obtain ⟨ad210, e210, hx210_0⟩ := Kd.at_string HR0.out 0 p210 q210
       obtain rfl : ad206 = ad210 := (by injection e210)
       have qi210 : (0 < l0.length) = True := eq_true (by omega)
       (try rw [show ((0 : Int)).toNat = 0 from rfl] at hx210_0)
       (try rw [Addr.add_zero'] at hx210_0)
       have hn210_0 : ad206.block ≠ gb209 := Nat.ne_of_lt (Nat.lt_of_lt_of_le (by have := World.block_lt_of_cell? _ _ hx210_0; first | rwa [add_block] at this | exact this) GW209.out)
       have hn210_1 : ad206.block ≠ gb209 := Nat.ne_of_lt (Nat.lt_of_lt_of_le (by have := World.block_lt_of_cell? _ _ hx210_0; first | rwa [add_block] at this | exact this) GW209.out)
       have hn210_2 : ad206.block ≠ gb209 := Nat.ne_of_lt (Nat.lt_of_lt_of_le (by have := World.block_lt_of_cell? _ _ hx210_0; first | rwa [add_block] at this | exact this) GW209.out)
       have hn210_3 : ad206.block ≠ gb209 := Nat.ne_of_lt (Nat.lt_of_lt_of_le (by have := World.block_lt_of_cell? _ _ hx210_0; first | rwa [add_block] at this | exact this) GW209.out)
       have hn210_4 : ad206.block ≠ gb209 := Nat.ne_of_lt (Nat.lt_of_lt_of_le (by have := World.block_lt_of_cell? _ _ hx210_0; first | rwa [add_block] at this | exact this) GW209.out)
       have hn210_5 : ad206.block ≠ gb209 := Nat.ne_of_lt (Nat.lt_of_lt_of_le (by have := World.block_lt_of_cell? _ _ hx210_0; first | rwa [add_block] at this | exact this) GW209.out)
       have hn210_6 : ad206.block ≠ gb209 := Nat.ne_of_lt (Nat.lt_of_lt_of_le (by have := World.block_lt_of_cell? _ _ hx210_0; first | rwa [add_block] at this | exact this) GW209.out)
       replace hx210_0 := Rgn.hx HB.out hx210_0
       replace hx210_0 := (cell_far (p := ⟨gb209, 0, none⟩) (by first | (rw [add_block]; exact hn210_0) | (show (Addr.add _ _).block ≠ _; rw [add_block]; exact hn210_0) | exact hn210_0) (.int .i64 0)).trans hx210_0
       replace hx210_0 := (cell_far (p := ⟨gb209, 1, none⟩) (by first | (rw [add_block]; exact hn210_1) | (show (Addr.add _ _).block ≠ _; rw [add_block]; exact hn210_1) | exact hn210_1) (.string (⟨#[]⟩ : ByteArray))).trans hx210_0
       replace hx210_0 := (cell_far (p := ⟨gb209, 2, none⟩) (by first | (rw [add_block]; exact hn210_2) | (show (Addr.add _ _).block ≠ _; rw [add_block]; exact hn210_2) | exact hn210_2) (.string (⟨#[]⟩ : ByteArray))).trans hx210_0
       replace hx210_0 := (cell_far (p := ⟨gb209, 3, none⟩) (by first | (rw [add_block]; exact hn210_3) | (show (Addr.add _ _).block ≠ _; rw [add_block]; exact hn210_3) | exact hn210_3) (.int .i64 t207)).trans hx210_0
       replace hx210_0 := (cell_far (p := ⟨gb209, 4, none⟩) (by first | (rw [add_block]; exact hn210_4) | (show (Addr.add _ _).block ≠ _; rw [add_block]; exact hn210_4) | exact hn210_4) (.int .i64 0)).trans hx210_0
       replace hx210_0 := (cell_far (p := ⟨gb209, 5, none⟩) (by first | (rw [add_block]; exact hn210_5) | (show (Addr.add _ _).block ≠ _; rw [add_block]; exact hn210_5) | exact hn210_5) (.int .i64 0)).trans hx210_0
       replace hx210_0 := (cell_far (p := ⟨gb209, 6, none⟩) (by first | (rw [add_block]; exact hn210_6) | (show (Addr.add _ _).block ≠ _; rw [add_block]; exact hn210_6) | exact hn210_6) (.string (⟨#[]⟩ : ByteArray))).trans hx210_0
       clear hn210_0
       clear hn210_1
       clear hn210_2
       clear hn210_3
       clear hn210_4
       clear hn210_5
       clear hn210_6
       replace p210 := eq_true p210
       replace q210 := eq_true q210
       go_wp2
       go_meet
       case rel => exact ⟨_, (((l0.length : Int) == 2)), (by first | rfl | (simp; done) | (simp [*]; done)), H', ⟨by first | omega | exact Nat.le_refl _⟩, ⟨Rgn.kf BK205.out⟩, ⟨by exact Rgn.put7 (Rgn.kf BK209.out)⟩, ⟨Rgn.bq HB.out⟩⟩
      ·
       rw [if_neg c15] at H
       have c15b0 : ((rdOf ByteArray.empty l0 0).toList == ([99, 108, 111, 115, 101] : List UInt8)) = false := beq_eq_false_iff_ne.mpr c15
       have c15b1 : ((rdOf ByteArray.empty l0 0).toList != ([99, 108, 111, 115, 101] : List UInt8)) = true := bne_iff_ne.mpr c15
       have H' := Aside0.mk H
       clear H
       have p210 : 0 ≤ (0 : Int) := (by omega)
       have q210 : 0 < (l0.length : Int) := of_decide_eq_true (by first | (with_reducible assumption) | assumption)
       obtain ⟨ad210, e210, hx210_0⟩ := Kd.at_string HR0.out 0 p210 q210
       obtain rfl : ad206 = ad210 := (by injection e210)
       have qi210 : (0 < l0.length) = True := eq_true (by omega)
       (try rw [show ((0 : Int)).toNat = 0 from rfl] at hx210_0)
       (try rw [Addr.add_zero'] at hx210_0)
       have hn210_0 : ad206.block ≠ gb209 := Nat.ne_of_lt (Nat.lt_of_lt_of_le (by have := World.block_lt_of_cell? _ _ hx210_0; first | rwa [add_block] at this | exact this) GW209.out)
       have hn210_1 : ad206.block ≠ gb209 := Nat.ne_of_lt (Nat.lt_of_lt_of_le (by have := World.block_lt_of_cell? _ _ hx210_0; first | rwa [add_block] at this | exact this) GW209.out)
       have hn210_2 : ad206.block ≠ gb209 := Nat.ne_of_lt (Nat.lt_of_lt_of_le (by have := World.block_lt_of_cell? _ _ hx210_0; first | rwa [add_block] at this | exact this) GW209.out)
       have hn210_3 : ad206.block ≠ gb209 := Nat.ne_of_lt (Nat.lt_of_lt_of_le (by have := World.block_lt_of_cell? _ _ hx210_0; first | rwa [add_block] at this | exact this) GW209.out)
       have hn210_4 : ad206.block ≠ gb209 := Nat.ne_of_lt (Nat.lt_of_lt_of_le (by have := World.block_lt_of_cell? _ _ hx210_0; first | rwa [add_block] at this | exact this) GW209.out)
       have hn210_5 : ad206.block ≠ gb209 := Nat.ne_of_lt (Nat.lt_of_lt_of_le (by have := World.block_lt_of_cell? _ _ hx210_0; first | rwa [add_block] at this | exact this) GW209.out)
       have hn210_6 : ad206.block ≠ gb209 := Nat.ne_of_lt (Nat.lt_of_lt_of_le (by have := World.block_lt_of_cell? _ _ hx210_0; first | rwa [add_block] at this | exact this) GW209.out)
       replace hx210_0 := Rgn.hx HB.out hx210_0
       replace hx210_0 := (cell_far (p := ⟨gb209, 0, none⟩) (by first | (rw [add_block]; exact hn210_0) | (show (Addr.add _ _).block ≠ _; rw [add_block]; exact hn210_0) | exact hn210_0) (.int .i64 0)).trans hx210_0
       replace hx210_0 := (cell_far (p := ⟨gb209, 1, none⟩) (by first | (rw [add_block]; exact hn210_1) | (show (Addr.add _ _).block ≠ _; rw [add_block]; exact hn210_1) | exact hn210_1) (.string (⟨#[]⟩ : ByteArray))).trans hx210_0
       replace hx210_0 := (cell_far (p := ⟨gb209, 2, none⟩) (by first | (rw [add_block]; exact hn210_2) | (show (Addr.add _ _).block ≠ _; rw [add_block]; exact hn210_2) | exact hn210_2) (.string (⟨#[]⟩ : ByteArray))).trans hx210_0
       replace hx210_0 := (cell_far (p := ⟨gb209, 3, none⟩) (by first | (rw [add_block]; exact hn210_3) | (show (Addr.add _ _).block ≠ _; rw [add_block]; exact hn210_3) | exact hn210_3) (.int .i64 t207)).trans hx210_0
       replace hx210_0 := (cell_far (p := ⟨gb209, 4, none⟩) (by first | (rw [add_block]; exact hn210_4) | (show (Addr.add _ _).block ≠ _; rw [add_block]; exact hn210_4) | exact hn210_4) (.int .i64 0)).trans hx210_0
       replace hx210_0 := (cell_far (p := ⟨gb209, 5, none⟩) (by first | (rw [add_block]; exact hn210_5) | (show (Addr.add _ _).block ≠ _; rw [add_block]; exact hn210_5) | exact hn210_5) (.int .i64 0)).trans hx210_0
       replace hx210_0 := (cell_far (p := ⟨gb209, 6, none⟩) (by first | (rw [add_block]; exact hn210_6) | (show (Addr.add _ _).block ≠ _; rw [add_block]; exact hn210_6) | exact hn210_6) (.string (⟨#[]⟩ : ByteArray))).trans hx210_0
       clear hn210_0
       clear hn210_1
       clear hn210_2
       clear hn210_3
       clear hn210_4
       clear hn210_5
       clear hn210_6
       replace p210 := eq_true p210
       replace q210 := eq_true q210
       go_wp2
       go_meet
       case rel => exact ⟨_, (false), (by first | rfl | (simp; done) | (simp [*]; done)), H', ⟨by first | omega | exact Nat.le_refl _⟩, ⟨Rgn.kf BK205.out⟩, ⟨by exact Rgn.put7 (Rgn.kf BK209.out)⟩, ⟨Rgn.bq HB.out⟩⟩
     ·
      rw [if_neg c14] at H
      exact absurd H (by simp)
    case rest =>
     clear HC8
     try clear c2
     try clear c2b0
     try clear c2b1
     try clear c5
     try clear c5b0
     try clear c5b1
     try clear c7
     try clear hcz13_0 hcz13_1 hcz13_2 hcz13_3 hcz13_4 hcz13_5 hcz13_6
     try clear hfz13_0 hfz13_1 hfz13_2 hfz13_3 hfz13_4 hfz13_5 hfz13_6
     try clear hx206_0
     try clear p206
     try clear q206
     obtain ⟨kq, x33_7, rfl, HA, HJ7, BK205, BK209, HB⟩ := hcut
     cases kq with
     | zero => exact absurd HA.out (by simp [spec_l14Handled.j0])
     | succ kj7 =>
      have H := HA.out
      clear HA
      simp only [spec_l14Handled.j0] at H
      by_cases c16 : x33_7 = true
      ·
       subst c16
       replace H := Rgn.ip H
       simp only [Option.some.injEq, Prod.mk.injEq] at H
       obtain ⟨rfl, rfl, rfl, rfl, rfl, rfl, rfl, rfl⟩ := H
       have hnb17 := NB209_205.out
       have hnc17 := NB205_209.out
       obtain ⟨hcz18_0, hcz18_1, hcz18_2, hcz18_3, hcz18_4, hcz18_5, hcz18_6, hfz18_0, hfz18_1, hfz18_2, hfz18_3, hfz18_4, hfz18_5, hfz18_6⟩ := Rgn.cf7 BK209.out
       obtain ⟨hcz19_0, hcz19_1, hcz19_2, hcz19_3, hcz19_4, hcz19_5, hcz19_6, hfz19_0, hfz19_1, hfz19_2, hfz19_3, hfz19_4, hfz19_5, hfz19_6⟩ := Rgn.cf7 BK205.out
       go_wp2
       refine bodyPost_ret (results_ct rfl _ _ gb205 24 _ (0, 0) _ rfl (by exact Rgn.put7 (Rgn.kf BK205.out)) Tryd.underlying24 rfl (by kernel_rfl)) rfl ?_
       exact ⟨by first | rfl | (simp [errW_none, errW_some] <;> rfl) | (simp [*, errW_none, errW_some] <;> rfl), Rgn.bq HB.out⟩
      ·
       replace c16 := Bool.eq_false_iff.mpr c16
       subst c16
       replace H := Rgn.im H
       have HC20 := Aside0.mk H
       clear H
       go_upto_region 10 with (fail)
       go_cut [45] from 45 to 45 (fun v45 wc => ∃ (kq : Nat) (x45_19 : Bool), v45 = .bool x45_19 ∧ Aside0 (spec_l14Handled.j1 kq l0 x45_19 0 (⟨#[]⟩ : ByteArray) (⟨#[]⟩ : ByteArray) t207 0 0 (⟨#[]⟩ : ByteArray) = some (r1, r2, r3, r4, r5, r6, r7, r8)) ∧ Aside0 (kq ≤ kj7) ∧ Aside0 (wc.heap[gb205]? = some (.cells #[.int .i64 0, .string (⟨#[]⟩ : ByteArray), .string (⟨#[]⟩ : ByteArray), .int .i64 0, .int .i64 0, .int .i64 0, .string (⟨#[]⟩ : ByteArray)] 24 (0, 0))) ∧ Aside0 (wc.heap[gb209]? = some (.cells #[.int .i64 0, .string (⟨#[]⟩ : ByteArray), .string (⟨#[]⟩ : ByteArray), .int .i64 t207, .int .i64 0, .int .i64 0, .string (⟨#[]⟩ : ByteArray)] 24 (0, 0))) ∧ Aside0 (Below w.heap.size w wc))
       case first =>
        have H := HC20.out
        clear HC20
        by_cases c21 : 0 < (l0.length : Int)
        ·
         rw [if_pos c21] at H
         have c21b0 : decide (0 < (l0.length : Int)) = true := decide_eq_true c21
         have c21b1 : decide (0 < l0.length) = true := decide_eq_true (by omega)
         clear c21
         (first | rw [c21b0] | (simp only [i64_w, i32_w]; rw [c21b0]) | skip)
         by_cases c22 : (rdOf ByteArray.empty l0 0).toList = ([102, 115, 116, 97, 116] : List UInt8)
         ·
          rw [if_pos c22] at H
          have c22b0 : ((rdOf ByteArray.empty l0 0).toList == ([102, 115, 116, 97, 116] : List UInt8)) = true := beq_iff_eq.mpr c22
          have c22b1 : ((rdOf ByteArray.empty l0 0).toList != ([102, 115, 116, 97, 116] : List UInt8)) = false := bne_eq_false_iff_eq.mpr c22
          clear c22
          have H' := Aside0.mk H
          clear H
          have p211 : 0 ≤ (0 : Int) := (by omega)
          have q211 : 0 < (l0.length : Int) := of_decide_eq_true (by first | (with_reducible assumption) | assumption)
          obtain ⟨ad211, e211, hx211_0⟩ := Kd.at_string HR0.out 0 p211 q211
          obtain rfl : ad206 = ad211 := (by injection e211)
          have qi211 : (0 < l0.length) = True := eq_true (by omega)
          (try rw [show ((0 : Int)).toNat = 0 from rfl] at hx211_0)
          (try rw [Addr.add_zero'] at hx211_0)
          replace hx211_0 := Rgn.hx HB.out hx211_0
          replace p211 := eq_true p211
          replace q211 := eq_true q211
          go_wp2
          go_meet
          case rel => exact ⟨_, (((l0.length : Int) == 2)), (by first | rfl | (simp; done) | (simp [*]; done)), H', ⟨by have := HJ7.out; first | omega | exact Nat.le_refl _⟩, ⟨Rgn.kb BK205.out⟩, ⟨Rgn.kb BK209.out⟩, ⟨Rgn.bq HB.out⟩⟩
         ·
          rw [if_neg c22] at H
          have c22b0 : ((rdOf ByteArray.empty l0 0).toList == ([102, 115, 116, 97, 116] : List UInt8)) = false := beq_eq_false_iff_ne.mpr c22
          have c22b1 : ((rdOf ByteArray.empty l0 0).toList != ([102, 115, 116, 97, 116] : List UInt8)) = true := bne_iff_ne.mpr c22
          have H' := Aside0.mk H
          clear H
          have p211 : 0 ≤ (0 : Int) := (by omega)
          have q211 : 0 < (l0.length : Int) := of_decide_eq_true (by first | (with_reducible assumption) | assumption)
          obtain ⟨ad211, e211, hx211_0⟩ := Kd.at_string HR0.out 0 p211 q211
          obtain rfl : ad206 = ad211 := (by injection e211)
          have qi211 : (0 < l0.length) = True := eq_true (by omega)
          (try rw [show ((0 : Int)).toNat = 0 from rfl] at hx211_0)
          (try rw [Addr.add_zero'] at hx211_0)
          replace hx211_0 := Rgn.hx HB.out hx211_0
          replace p211 := eq_true p211
          replace q211 := eq_true q211
          go_wp2
          go_meet
          case rel => exact ⟨_, (false), (by first | rfl | (simp; done) | (simp [*]; done)), H', ⟨by have := HJ7.out; first | omega | exact Nat.le_refl _⟩, ⟨Rgn.kb BK205.out⟩, ⟨Rgn.kb BK209.out⟩, ⟨Rgn.bq HB.out⟩⟩
        ·
         rw [if_neg c21] at H
         exact absurd H (by simp)
       case rest =>
        clear HC20
        try clear c2
        try clear c2b0
        try clear c2b1
        try clear c5
        try clear c5b0
        try clear c5b1
        try clear c7
        try clear c16
        try clear hcz13_0 hcz13_1 hcz13_2 hcz13_3 hcz13_4 hcz13_5 hcz13_6
        try clear hfz13_0 hfz13_1 hfz13_2 hfz13_3 hfz13_4 hfz13_5 hfz13_6
        try clear hx206_0
        try clear p206
        try clear q206
        obtain ⟨kq, x45_19, rfl, HA, HJ19, BK205, BK209, HB⟩ := hcut
        cases kq with
        | zero => exact absurd HA.out (by simp [spec_l14Handled.j1])
        | succ kj19 =>
         have H := HA.out
         clear HA
         simp only [spec_l14Handled.j1] at H
         by_cases c23 : x45_19 = true
         ·
          subst c23
          replace H := Rgn.ip H
          simp only [Option.some.injEq, Prod.mk.injEq] at H
          obtain ⟨rfl, rfl, rfl, rfl, rfl, rfl, rfl, rfl⟩ := H
          have hnb24 := NB209_205.out
          have hnc24 := NB205_209.out
          obtain ⟨hcz25_0, hcz25_1, hcz25_2, hcz25_3, hcz25_4, hcz25_5, hcz25_6, hfz25_0, hfz25_1, hfz25_2, hfz25_3, hfz25_4, hfz25_5, hfz25_6⟩ := Rgn.cf7 BK209.out
          obtain ⟨hcz26_0, hcz26_1, hcz26_2, hcz26_3, hcz26_4, hcz26_5, hcz26_6, hfz26_0, hfz26_1, hfz26_2, hfz26_3, hfz26_4, hfz26_5, hfz26_6⟩ := Rgn.cf7 BK205.out
          go_wp2
          refine bodyPost_ret (results_ct rfl _ _ gb205 24 _ (0, 0) _ rfl (by exact Rgn.put7 (Rgn.kf BK205.out)) Tryd.underlying24 rfl (by kernel_rfl)) rfl ?_
          exact ⟨by first | rfl | (simp [errW_none, errW_some] <;> rfl) | (simp [*, errW_none, errW_some] <;> rfl), Rgn.bq HB.out⟩
         ·
          replace c23 := Bool.eq_false_iff.mpr c23
          subst c23
          replace H := Rgn.im H
          have HC27 := Aside0.mk H
          clear H
          go_upto_region 13 with (fail)
          go_cut [57] from 57 to 57 (fun v57 wc => ∃ (kq : Nat) (x57_26 : Bool), v57 = .bool x57_26 ∧ Aside0 (spec_l14Handled.j2 kq l0 x57_26 0 (⟨#[]⟩ : ByteArray) (⟨#[]⟩ : ByteArray) t207 0 0 (⟨#[]⟩ : ByteArray) = some (r1, r2, r3, r4, r5, r6, r7, r8)) ∧ Aside0 (kq ≤ kj19) ∧ Aside0 (wc.heap[gb205]? = some (.cells #[.int .i64 0, .string (⟨#[]⟩ : ByteArray), .string (⟨#[]⟩ : ByteArray), .int .i64 0, .int .i64 0, .int .i64 0, .string (⟨#[]⟩ : ByteArray)] 24 (0, 0))) ∧ Aside0 (wc.heap[gb209]? = some (.cells #[.int .i64 0, .string (⟨#[]⟩ : ByteArray), .string (⟨#[]⟩ : ByteArray), .int .i64 t207, .int .i64 0, .int .i64 0, .string (⟨#[]⟩ : ByteArray)] 24 (0, 0))) ∧ Aside0 (Below w.heap.size w wc))
          case first =>
           have H := HC27.out
           clear HC27
           by_cases c28 : 0 < (l0.length : Int)
           ·
            rw [if_pos c28] at H
            have c28b0 : decide (0 < (l0.length : Int)) = true := decide_eq_true c28
            have c28b1 : decide (0 < l0.length) = true := decide_eq_true (by omega)
            clear c28
            (first | rw [c28b0] | (simp only [i64_w, i32_w]; rw [c28b0]) | skip)
            by_cases c29 : (rdOf ByteArray.empty l0 0).toList = ([102, 116, 114, 117, 110, 99] : List UInt8)
            ·
             rw [if_pos c29] at H
             have c29b0 : ((rdOf ByteArray.empty l0 0).toList == ([102, 116, 114, 117, 110, 99] : List UInt8)) = true := beq_iff_eq.mpr c29
             have c29b1 : ((rdOf ByteArray.empty l0 0).toList != ([102, 116, 114, 117, 110, 99] : List UInt8)) = false := bne_eq_false_iff_eq.mpr c29
             clear c29
             have H' := Aside0.mk H
             clear H
             have p212 : 0 ≤ (0 : Int) := (by omega)
             have q212 : 0 < (l0.length : Int) := of_decide_eq_true (by first | (with_reducible assumption) | assumption)
             obtain ⟨ad212, e212, hx212_0⟩ := Kd.at_string HR0.out 0 p212 q212
             obtain rfl : ad206 = ad212 := (by injection e212)
             have qi212 : (0 < l0.length) = True := eq_true (by omega)
             (try rw [show ((0 : Int)).toNat = 0 from rfl] at hx212_0)
             (try rw [Addr.add_zero'] at hx212_0)
             replace hx212_0 := Rgn.hx HB.out hx212_0
             replace p212 := eq_true p212
             replace q212 := eq_true q212
             go_wp2
             go_meet
             case rel => exact ⟨_, (((l0.length : Int) == 3)), (by first | rfl | (simp; done) | (simp [*]; done)), H', ⟨by have := HJ7.out; have := HJ19.out; first | omega | exact Nat.le_refl _⟩, ⟨Rgn.kb BK205.out⟩, ⟨Rgn.kb BK209.out⟩, ⟨Rgn.bq HB.out⟩⟩
            ·
             rw [if_neg c29] at H
             have c29b0 : ((rdOf ByteArray.empty l0 0).toList == ([102, 116, 114, 117, 110, 99] : List UInt8)) = false := beq_eq_false_iff_ne.mpr c29
             have c29b1 : ((rdOf ByteArray.empty l0 0).toList != ([102, 116, 114, 117, 110, 99] : List UInt8)) = true := bne_iff_ne.mpr c29
             have H' := Aside0.mk H
             clear H
             have p212 : 0 ≤ (0 : Int) := (by omega)
             have q212 : 0 < (l0.length : Int) := of_decide_eq_true (by first | (with_reducible assumption) | assumption)
             obtain ⟨ad212, e212, hx212_0⟩ := Kd.at_string HR0.out 0 p212 q212
             obtain rfl : ad206 = ad212 := (by injection e212)
             have qi212 : (0 < l0.length) = True := eq_true (by omega)
             (try rw [show ((0 : Int)).toNat = 0 from rfl] at hx212_0)
             (try rw [Addr.add_zero'] at hx212_0)
             replace hx212_0 := Rgn.hx HB.out hx212_0
             replace p212 := eq_true p212
             replace q212 := eq_true q212
             go_wp2
             go_meet
             case rel => exact ⟨_, (false), (by first | rfl | (simp; done) | (simp [*]; done)), H', ⟨by have := HJ7.out; have := HJ19.out; first | omega | exact Nat.le_refl _⟩, ⟨Rgn.kb BK205.out⟩, ⟨Rgn.kb BK209.out⟩, ⟨Rgn.bq HB.out⟩⟩
           ·
            rw [if_neg c28] at H
            exact absurd H (by simp)
          case rest =>
           clear HC27
           try clear c2
           try clear c2b0
           try clear c2b1
           try clear c5
           try clear c5b0
           try clear c5b1
           try clear c7
           try clear c16
           try clear c23
           try clear hcz13_0 hcz13_1 hcz13_2 hcz13_3 hcz13_4 hcz13_5 hcz13_6
           try clear hfz13_0 hfz13_1 hfz13_2 hfz13_3 hfz13_4 hfz13_5 hfz13_6
           try clear hx206_0
           try clear p206
           try clear q206
           obtain ⟨kq, x57_26, rfl, HA, HJ26, BK205, BK209, HB⟩ := hcut
           cases kq with
           | zero => exact absurd HA.out (by simp [spec_l14Handled.j2])
           | succ kj26 =>
            have H := HA.out
            clear HA
            simp only [spec_l14Handled.j2] at H
            by_cases c30 : x57_26 = true
            ·
             subst c30
             replace H := Rgn.ip H
             by_cases c31 : 2 < (l0.length : Int)
             ·
              rw [if_pos c31] at H
              have c31b0 : decide (2 < (l0.length : Int)) = true := decide_eq_true c31
              have c31b1 : decide (2 < l0.length) = true := decide_eq_true (by omega)
              clear c31
              replace H := Option.bind_eq_some_iff.mp H
              obtain ⟨⟨t214, t215⟩, A320, H⟩ := H
              replace H : (some (12, (⟨#[]⟩ : ByteArray), (⟨#[]⟩ : ByteArray), t207, 0, t214, (⟨#[]⟩ : ByteArray), t215)) = some (r1, r2, r3, r4, r5, r6, r7, r8) := H
              have A32 := Aside0.mk A320
              clear A320
              simp only [Option.some.injEq, Prod.mk.injEq] at H
              obtain ⟨rfl, rfl, rfl, rfl, rfl, rfl, rfl, rfl⟩ := H
              have p213 : 0 ≤ (2 : Int) := (by omega)
              have q213 : 2 < (l0.length : Int) := of_decide_eq_true (by first | (with_reducible assumption) | assumption)
              obtain ⟨ad213, e213, hx213_0⟩ := Kd.at_string HR0.out 2 p213 q213
              obtain rfl : ad206 = ad213 := (by injection e213)
              (try simp only [show (2 : Int).toNat = 2 from rfl, Nat.reduceMul, Nat.reduceEqDiff, Go.Addr.add, ↓reduceIte] at hx213_0)
              have qi213 : (2 < l0.length) = True := eq_true (by omega)
              (try rw [show ((2 : Int)).toNat = 2 from rfl] at hx213_0)
              replace hx213_0 := Rgn.hx HB.out hx213_0
              replace p213 := eq_true p213
              replace q213 := eq_true q213
              go_wp2_with (first | ((with_reducible refine gate_callee (f := 60) rfl ?_); refine Rgn.gl (some 71) Tryd.func60 #[.string (rdOf ByteArray.empty l0 2)] ?_; (with_reducible refine (spec_l14Number.calls kj26 (rdOf ByteArray.empty l0 2) t214 t215 _ A32.out).mono ?_); rintro e w33 ⟨rfl, hb⟩; refine ⟨_, rfl, ?_⟩; replace BK205 := Aside0.mk (Rgn.bb BK205.out hb); replace BK209 := Aside0.mk (Rgn.bb BK209.out hb); replace HB := Aside0.mk (below_step (Rgn.bq HB.out) hb); (try clear hb); have hnb34 := NB209_205.out; have hnc34 := NB205_209.out; obtain ⟨hcz35_0, hcz35_1, hcz35_2, hcz35_3, hcz35_4, hcz35_5, hcz35_6, hfz35_0, hfz35_1, hfz35_2, hfz35_3, hfz35_4, hfz35_5, hfz35_6⟩ := Rgn.cf7 BK209.out; obtain ⟨hcz36_0, hcz36_1, hcz36_2, hcz36_3, hcz36_4, hcz36_5, hcz36_6, hfz36_0, hfz36_1, hfz36_2, hfz36_3, hfz36_4, hfz36_5, hfz36_6⟩ := Rgn.cf7 BK205.out))
              refine bodyPost_ret (results_ct rfl _ _ gb205 24 _ (0, 0) _ rfl (by exact Rgn.put7 (Rgn.kf BK205.out)) Tryd.underlying24 rfl (by kernel_rfl)) rfl ?_
              exact ⟨by first | rfl | (simp [errW_none, errW_some] <;> rfl) | (simp [*, errW_none, errW_some] <;> rfl), Rgn.bq HB.out⟩
             ·
              rw [if_neg c31] at H
              exact absurd H (by simp)
            ·
             replace c30 := Bool.eq_false_iff.mpr c30
             subst c30
             replace H := Rgn.im H
             have HC37 := Aside0.mk H
             clear H
             go_upto_region 18 with (fail)
             go_cut [79] from 79 to 79 (fun v79 wc => ∃ (kq : Nat) (x79_36 : Bool), v79 = .bool x79_36 ∧ Aside0 (spec_l14Handled.j3 kq l0 x79_36 0 (⟨#[]⟩ : ByteArray) (⟨#[]⟩ : ByteArray) t207 0 0 (⟨#[]⟩ : ByteArray) = some (r1, r2, r3, r4, r5, r6, r7, r8)) ∧ Aside0 (kq ≤ kj26) ∧ Aside0 (wc.heap[gb205]? = some (.cells #[.int .i64 0, .string (⟨#[]⟩ : ByteArray), .string (⟨#[]⟩ : ByteArray), .int .i64 0, .int .i64 0, .int .i64 0, .string (⟨#[]⟩ : ByteArray)] 24 (0, 0))) ∧ Aside0 (wc.heap[gb209]? = some (.cells #[.int .i64 0, .string (⟨#[]⟩ : ByteArray), .string (⟨#[]⟩ : ByteArray), .int .i64 t207, .int .i64 0, .int .i64 0, .string (⟨#[]⟩ : ByteArray)] 24 (0, 0))) ∧ Aside0 (Below w.heap.size w wc))
             case first =>
              have H := HC37.out
              clear HC37
              by_cases c38 : 0 < (l0.length : Int)
              ·
               rw [if_pos c38] at H
               have c38b0 : decide (0 < (l0.length : Int)) = true := decide_eq_true c38
               have c38b1 : decide (0 < l0.length) = true := decide_eq_true (by omega)
               clear c38
               (first | rw [c38b0] | (simp only [i64_w, i32_w]; rw [c38b0]) | skip)
               by_cases c39 : (rdOf ByteArray.empty l0 0).toList = ([112, 114, 101, 97, 100] : List UInt8)
               ·
                rw [if_pos c39] at H
                have c39b0 : ((rdOf ByteArray.empty l0 0).toList == ([112, 114, 101, 97, 100] : List UInt8)) = true := beq_iff_eq.mpr c39
                have c39b1 : ((rdOf ByteArray.empty l0 0).toList != ([112, 114, 101, 97, 100] : List UInt8)) = false := bne_eq_false_iff_eq.mpr c39
                clear c39
                have H' := Aside0.mk H
                clear H
                have p216 : 0 ≤ (0 : Int) := (by omega)
                have q216 : 0 < (l0.length : Int) := of_decide_eq_true (by first | (with_reducible assumption) | assumption)
                obtain ⟨ad216, e216, hx216_0⟩ := Kd.at_string HR0.out 0 p216 q216
                obtain rfl : ad206 = ad216 := (by injection e216)
                have qi216 : (0 < l0.length) = True := eq_true (by omega)
                (try rw [show ((0 : Int)).toNat = 0 from rfl] at hx216_0)
                (try rw [Addr.add_zero'] at hx216_0)
                replace hx216_0 := Rgn.hx HB.out hx216_0
                replace p216 := eq_true p216
                replace q216 := eq_true q216
                go_wp2
                go_meet
                case rel => exact ⟨_, (((l0.length : Int) == 4)), (by first | rfl | (simp; done) | (simp [*]; done)), H', ⟨by have := HJ7.out; have := HJ19.out; have := HJ26.out; first | omega | exact Nat.le_refl _⟩, ⟨Rgn.kb BK205.out⟩, ⟨Rgn.kb BK209.out⟩, ⟨Rgn.bq HB.out⟩⟩
               ·
                rw [if_neg c39] at H
                have c39b0 : ((rdOf ByteArray.empty l0 0).toList == ([112, 114, 101, 97, 100] : List UInt8)) = false := beq_eq_false_iff_ne.mpr c39
                have c39b1 : ((rdOf ByteArray.empty l0 0).toList != ([112, 114, 101, 97, 100] : List UInt8)) = true := bne_iff_ne.mpr c39
                have H' := Aside0.mk H
                clear H
                have p216 : 0 ≤ (0 : Int) := (by omega)
                have q216 : 0 < (l0.length : Int) := of_decide_eq_true (by first | (with_reducible assumption) | assumption)
                obtain ⟨ad216, e216, hx216_0⟩ := Kd.at_string HR0.out 0 p216 q216
                obtain rfl : ad206 = ad216 := (by injection e216)
                have qi216 : (0 < l0.length) = True := eq_true (by omega)
                (try rw [show ((0 : Int)).toNat = 0 from rfl] at hx216_0)
                (try rw [Addr.add_zero'] at hx216_0)
                replace hx216_0 := Rgn.hx HB.out hx216_0
                replace p216 := eq_true p216
                replace q216 := eq_true q216
                go_wp2
                go_meet
                case rel => exact ⟨_, (false), (by first | rfl | (simp; done) | (simp [*]; done)), H', ⟨by have := HJ7.out; have := HJ19.out; have := HJ26.out; first | omega | exact Nat.le_refl _⟩, ⟨Rgn.kb BK205.out⟩, ⟨Rgn.kb BK209.out⟩, ⟨Rgn.bq HB.out⟩⟩
              ·
               rw [if_neg c38] at H
               exact absurd H (by simp)
             case rest =>
              clear HC37
              try clear c2
              try clear c2b0
              try clear c2b1
              try clear c5
              try clear c5b0
              try clear c5b1
              try clear c7
              try clear c16
              try clear c23
              try clear c30
              try clear hcz13_0 hcz13_1 hcz13_2 hcz13_3 hcz13_4 hcz13_5 hcz13_6
              try clear hfz13_0 hfz13_1 hfz13_2 hfz13_3 hfz13_4 hfz13_5 hfz13_6
              try clear hx206_0
              try clear p206
              try clear q206
              obtain ⟨kq, x79_36, rfl, HA, HJ36, BK205, BK209, HB⟩ := hcut
              cases kq with
              | zero => exact absurd HA.out (by simp [spec_l14Handled.j3])
              | succ kj36 =>
               have H := HA.out
               clear HA
               simp only [spec_l14Handled.j3] at H
               by_cases c40 : x79_36 = true
               ·
                subst c40
                replace H := Rgn.ip H
                by_cases c41 : 2 < (l0.length : Int)
                ·
                 rw [if_pos c41] at H
                 have c41b0 : decide (2 < (l0.length : Int)) = true := decide_eq_true c41
                 have c41b1 : decide (2 < l0.length) = true := decide_eq_true (by omega)
                 clear c41
                 replace H := Option.bind_eq_some_iff.mp H
                 obtain ⟨⟨t218, t219⟩, A420, H⟩ := H
                 replace H : (if 3 < (l0.length : Int) then ((spec_l14Number.f kj36 (rdOf ByteArray.empty l0 3)).bind fun bt221 => (if t219 = true then (some (15, (⟨#[]⟩ : ByteArray), (⟨#[]⟩ : ByteArray), t207, t218, bt221.1, (⟨#[]⟩ : ByteArray), bt221.2)) else (some (15, (⟨#[]⟩ : ByteArray), (⟨#[]⟩ : ByteArray), t207, t218, bt221.1, (⟨#[]⟩ : ByteArray), false)))) else (none)) = some (r1, r2, r3, r4, r5, r6, r7, r8) := H
                 have A42 := Aside0.mk A420
                 clear A420
                 by_cases c43 : 3 < (l0.length : Int)
                 ·
                  rw [if_pos c43] at H
                  have c43b0 : decide (3 < (l0.length : Int)) = true := decide_eq_true c43
                  have c43b1 : decide (3 < l0.length) = true := decide_eq_true (by omega)
                  clear c43
                  replace H := Option.bind_eq_some_iff.mp H
                  obtain ⟨⟨t221, t222⟩, A440, H⟩ := H
                  replace H : (if t219 = true then (some (15, (⟨#[]⟩ : ByteArray), (⟨#[]⟩ : ByteArray), t207, t218, t221, (⟨#[]⟩ : ByteArray), t222)) else (some (15, (⟨#[]⟩ : ByteArray), (⟨#[]⟩ : ByteArray), t207, t218, t221, (⟨#[]⟩ : ByteArray), false))) = some (r1, r2, r3, r4, r5, r6, r7, r8) := H
                  have A44 := Aside0.mk A440
                  clear A440
                  by_cases c45 : t219 = true
                  ·
                   subst c45
                   replace H := Rgn.ip H
                   simp only [Option.some.injEq, Prod.mk.injEq] at H
                   obtain ⟨rfl, rfl, rfl, rfl, rfl, rfl, rfl, rfl⟩ := H
                   have p217 : 0 ≤ (2 : Int) := (by omega)
                   have q217 : 2 < (l0.length : Int) := of_decide_eq_true (by first | (with_reducible assumption) | assumption)
                   obtain ⟨ad217, e217, hx217_0⟩ := Kd.at_string HR0.out 2 p217 q217
                   obtain rfl : ad206 = ad217 := (by injection e217)
                   (try simp only [show (2 : Int).toNat = 2 from rfl, Nat.reduceMul, Nat.reduceEqDiff, Go.Addr.add, ↓reduceIte] at hx217_0)
                   have qi217 : (2 < l0.length) = True := eq_true (by omega)
                   (try rw [show ((2 : Int)).toNat = 2 from rfl] at hx217_0)
                   replace hx217_0 := Rgn.hx HB.out hx217_0
                   replace p217 := eq_true p217
                   replace q217 := eq_true q217
                   go_wp2_with (first | ((with_reducible refine gate_callee (f := 60) rfl ?_); refine Rgn.gl (some 93) Tryd.func60 #[.string (rdOf ByteArray.empty l0 2)] ?_; (with_reducible refine (spec_l14Number.calls kj36 (rdOf ByteArray.empty l0 2) t218 true _ A42.out).mono ?_); rintro e w46 ⟨rfl, hb⟩; refine ⟨_, rfl, ?_⟩; replace BK205 := Aside0.mk (Rgn.bb BK205.out hb); replace BK209 := Aside0.mk (Rgn.bb BK209.out hb); replace HB := Aside0.mk (below_step (Rgn.bq HB.out) hb); (try clear hb); have p220 : 0 ≤ (3 : Int) := (by omega); have q220 : 3 < (l0.length : Int) := of_decide_eq_true (by first | (with_reducible assumption) | assumption); obtain ⟨ad220, e220, hx220_0⟩ := Kd.at_string HR0.out 3 p220 q220; obtain rfl : ad206 = ad220 := (by injection e220); (try simp only [show (3 : Int).toNat = 3 from rfl, Nat.reduceMul, Nat.reduceEqDiff, Go.Addr.add, ↓reduceIte] at hx220_0); have qi220 : (3 < l0.length) = True := eq_true (by omega); (try rw [show ((3 : Int)).toNat = 3 from rfl] at hx220_0); replace hx220_0 := Rgn.hx HB.out hx220_0; replace p220 := eq_true p220; replace q220 := eq_true q220) | ((with_reducible refine gate_callee (f := 60) rfl ?_); refine Rgn.gl (some 100) Tryd.func60 #[.string (rdOf ByteArray.empty l0 3)] ?_; (with_reducible refine (spec_l14Number.calls kj36 (rdOf ByteArray.empty l0 3) t221 t222 _ A44.out).mono ?_); rintro e w47 ⟨rfl, hb⟩; refine ⟨_, rfl, ?_⟩; replace BK205 := Aside0.mk (Rgn.bb BK205.out hb); replace BK209 := Aside0.mk (Rgn.bb BK209.out hb); replace HB := Aside0.mk (below_step (Rgn.bq HB.out) hb); (try clear hb); have hnb48 := NB209_205.out; have hnc48 := NB205_209.out; obtain ⟨hcz49_0, hcz49_1, hcz49_2, hcz49_3, hcz49_4, hcz49_5, hcz49_6, hfz49_0, hfz49_1, hfz49_2, hfz49_3, hfz49_4, hfz49_5, hfz49_6⟩ := Rgn.cf7 BK209.out; obtain ⟨hcz50_0, hcz50_1, hcz50_2, hcz50_3, hcz50_4, hcz50_5, hcz50_6, hfz50_0, hfz50_1, hfz50_2, hfz50_3, hfz50_4, hfz50_5, hfz50_6⟩ := Rgn.cf7 BK205.out))
                   refine bodyPost_ret (results_ct rfl _ _ gb205 24 _ (0, 0) _ rfl (by exact Rgn.put7 (Rgn.kf BK205.out)) Tryd.underlying24 rfl (by kernel_rfl)) rfl ?_
                   exact ⟨by first | rfl | (simp [errW_none, errW_some] <;> rfl) | (simp [*, errW_none, errW_some] <;> rfl), Rgn.bq HB.out⟩
                  ·
                   replace c45 := Bool.eq_false_iff.mpr c45
                   subst c45
                   replace H := Rgn.im H
                   simp only [Option.some.injEq, Prod.mk.injEq] at H
                   obtain ⟨rfl, rfl, rfl, rfl, rfl, rfl, rfl, rfl⟩ := H
                   have p217 : 0 ≤ (2 : Int) := (by omega)
                   have q217 : 2 < (l0.length : Int) := of_decide_eq_true (by first | (with_reducible assumption) | assumption)
                   obtain ⟨ad217, e217, hx217_0⟩ := Kd.at_string HR0.out 2 p217 q217
                   obtain rfl : ad206 = ad217 := (by injection e217)
                   (try simp only [show (2 : Int).toNat = 2 from rfl, Nat.reduceMul, Nat.reduceEqDiff, Go.Addr.add, ↓reduceIte] at hx217_0)
                   have qi217 : (2 < l0.length) = True := eq_true (by omega)
                   (try rw [show ((2 : Int)).toNat = 2 from rfl] at hx217_0)
                   replace hx217_0 := Rgn.hx HB.out hx217_0
                   replace p217 := eq_true p217
                   replace q217 := eq_true q217
                   go_wp2_with (first | ((with_reducible refine gate_callee (f := 60) rfl ?_); refine Rgn.gl (some 93) Tryd.func60 #[.string (rdOf ByteArray.empty l0 2)] ?_; (with_reducible refine (spec_l14Number.calls kj36 (rdOf ByteArray.empty l0 2) t218 false _ A42.out).mono ?_); rintro e w51 ⟨rfl, hb⟩; refine ⟨_, rfl, ?_⟩; replace BK205 := Aside0.mk (Rgn.bb BK205.out hb); replace BK209 := Aside0.mk (Rgn.bb BK209.out hb); replace HB := Aside0.mk (below_step (Rgn.bq HB.out) hb); (try clear hb); have p220 : 0 ≤ (3 : Int) := (by omega); have q220 : 3 < (l0.length : Int) := of_decide_eq_true (by first | (with_reducible assumption) | assumption); obtain ⟨ad220, e220, hx220_0⟩ := Kd.at_string HR0.out 3 p220 q220; obtain rfl : ad206 = ad220 := (by injection e220); (try simp only [show (3 : Int).toNat = 3 from rfl, Nat.reduceMul, Nat.reduceEqDiff, Go.Addr.add, ↓reduceIte] at hx220_0); have qi220 : (3 < l0.length) = True := eq_true (by omega); (try rw [show ((3 : Int)).toNat = 3 from rfl] at hx220_0); replace hx220_0 := Rgn.hx HB.out hx220_0; replace p220 := eq_true p220; replace q220 := eq_true q220) | ((with_reducible refine gate_callee (f := 60) rfl ?_); refine Rgn.gl (some 100) Tryd.func60 #[.string (rdOf ByteArray.empty l0 3)] ?_; (with_reducible refine (spec_l14Number.calls kj36 (rdOf ByteArray.empty l0 3) t221 t222 _ A44.out).mono ?_); rintro e w52 ⟨rfl, hb⟩; refine ⟨_, rfl, ?_⟩; replace BK205 := Aside0.mk (Rgn.bb BK205.out hb); replace BK209 := Aside0.mk (Rgn.bb BK209.out hb); replace HB := Aside0.mk (below_step (Rgn.bq HB.out) hb); (try clear hb); have hnb53 := NB209_205.out; have hnc53 := NB205_209.out; obtain ⟨hcz54_0, hcz54_1, hcz54_2, hcz54_3, hcz54_4, hcz54_5, hcz54_6, hfz54_0, hfz54_1, hfz54_2, hfz54_3, hfz54_4, hfz54_5, hfz54_6⟩ := Rgn.cf7 BK209.out; obtain ⟨hcz55_0, hcz55_1, hcz55_2, hcz55_3, hcz55_4, hcz55_5, hcz55_6, hfz55_0, hfz55_1, hfz55_2, hfz55_3, hfz55_4, hfz55_5, hfz55_6⟩ := Rgn.cf7 BK205.out))
                   refine bodyPost_ret (results_ct rfl _ _ gb205 24 _ (0, 0) _ rfl (by exact Rgn.put7 (Rgn.kf BK205.out)) Tryd.underlying24 rfl (by kernel_rfl)) rfl ?_
                   exact ⟨by first | rfl | (simp [errW_none, errW_some] <;> rfl) | (simp [*, errW_none, errW_some] <;> rfl), Rgn.bq HB.out⟩
                 ·
                  rw [if_neg c43] at H
                  exact absurd H (by simp)
                ·
                 rw [if_neg c41] at H
                 exact absurd H (by simp)
               ·
                replace c40 := Bool.eq_false_iff.mpr c40
                subst c40
                replace H := Rgn.im H
                have HC56 := Aside0.mk H
                clear H
                go_upto_region 25 with (fail)
                go_cut [113] from 113 to 113 (fun v113 wc => ∃ (kq : Nat) (x113_55 : Bool), v113 = .bool x113_55 ∧ Aside0 (spec_l14Handled.j4 kq l0 x113_55 0 (⟨#[]⟩ : ByteArray) (⟨#[]⟩ : ByteArray) t207 0 0 (⟨#[]⟩ : ByteArray) = some (r1, r2, r3, r4, r5, r6, r7, r8)) ∧ Aside0 (kq ≤ kj36) ∧ Aside0 (wc.heap[gb205]? = some (.cells #[.int .i64 0, .string (⟨#[]⟩ : ByteArray), .string (⟨#[]⟩ : ByteArray), .int .i64 0, .int .i64 0, .int .i64 0, .string (⟨#[]⟩ : ByteArray)] 24 (0, 0))) ∧ Aside0 (wc.heap[gb209]? = some (.cells #[.int .i64 0, .string (⟨#[]⟩ : ByteArray), .string (⟨#[]⟩ : ByteArray), .int .i64 t207, .int .i64 0, .int .i64 0, .string (⟨#[]⟩ : ByteArray)] 24 (0, 0))) ∧ Aside0 (Below w.heap.size w wc))
                case first =>
                 have H := HC56.out
                 clear HC56
                 by_cases c57 : 0 < (l0.length : Int)
                 ·
                  rw [if_pos c57] at H
                  have c57b0 : decide (0 < (l0.length : Int)) = true := decide_eq_true c57
                  have c57b1 : decide (0 < l0.length) = true := decide_eq_true (by omega)
                  clear c57
                  (first | rw [c57b0] | (simp only [i64_w, i32_w]; rw [c57b0]) | skip)
                  by_cases c58 : (rdOf ByteArray.empty l0 0).toList = ([112, 119, 114, 105, 116, 101] : List UInt8)
                  ·
                   rw [if_pos c58] at H
                   have c58b0 : ((rdOf ByteArray.empty l0 0).toList == ([112, 119, 114, 105, 116, 101] : List UInt8)) = true := beq_iff_eq.mpr c58
                   have c58b1 : ((rdOf ByteArray.empty l0 0).toList != ([112, 119, 114, 105, 116, 101] : List UInt8)) = false := bne_eq_false_iff_eq.mpr c58
                   clear c58
                   have H' := Aside0.mk H
                   clear H
                   have p223 : 0 ≤ (0 : Int) := (by omega)
                   have q223 : 0 < (l0.length : Int) := of_decide_eq_true (by first | (with_reducible assumption) | assumption)
                   obtain ⟨ad223, e223, hx223_0⟩ := Kd.at_string HR0.out 0 p223 q223
                   obtain rfl : ad206 = ad223 := (by injection e223)
                   have qi223 : (0 < l0.length) = True := eq_true (by omega)
                   (try rw [show ((0 : Int)).toNat = 0 from rfl] at hx223_0)
                   (try rw [Addr.add_zero'] at hx223_0)
                   replace hx223_0 := Rgn.hx HB.out hx223_0
                   replace p223 := eq_true p223
                   replace q223 := eq_true q223
                   go_wp2
                   go_meet
                   case rel => exact ⟨_, (((l0.length : Int) == 4)), (by first | rfl | (simp; done) | (simp [*]; done)), H', ⟨by have := HJ7.out; have := HJ19.out; have := HJ26.out; have := HJ36.out; first | omega | exact Nat.le_refl _⟩, ⟨Rgn.kb BK205.out⟩, ⟨Rgn.kb BK209.out⟩, ⟨Rgn.bq HB.out⟩⟩
                  ·
                   rw [if_neg c58] at H
                   have c58b0 : ((rdOf ByteArray.empty l0 0).toList == ([112, 119, 114, 105, 116, 101] : List UInt8)) = false := beq_eq_false_iff_ne.mpr c58
                   have c58b1 : ((rdOf ByteArray.empty l0 0).toList != ([112, 119, 114, 105, 116, 101] : List UInt8)) = true := bne_iff_ne.mpr c58
                   have H' := Aside0.mk H
                   clear H
                   have p223 : 0 ≤ (0 : Int) := (by omega)
                   have q223 : 0 < (l0.length : Int) := of_decide_eq_true (by first | (with_reducible assumption) | assumption)
                   obtain ⟨ad223, e223, hx223_0⟩ := Kd.at_string HR0.out 0 p223 q223
                   obtain rfl : ad206 = ad223 := (by injection e223)
                   have qi223 : (0 < l0.length) = True := eq_true (by omega)
                   (try rw [show ((0 : Int)).toNat = 0 from rfl] at hx223_0)
                   (try rw [Addr.add_zero'] at hx223_0)
                   replace hx223_0 := Rgn.hx HB.out hx223_0
                   replace p223 := eq_true p223
                   replace q223 := eq_true q223
                   go_wp2
                   go_meet
                   case rel => exact ⟨_, (false), (by first | rfl | (simp; done) | (simp [*]; done)), H', ⟨by have := HJ7.out; have := HJ19.out; have := HJ26.out; have := HJ36.out; first | omega | exact Nat.le_refl _⟩, ⟨Rgn.kb BK205.out⟩, ⟨Rgn.kb BK209.out⟩, ⟨Rgn.bq HB.out⟩⟩
                 ·
                  rw [if_neg c57] at H
                  exact absurd H (by simp)
                case rest =>
                 clear HC56
                 try clear c2
                 try clear c2b0
                 try clear c2b1
                 try clear c5
                 try clear c5b0
                 try clear c5b1
                 try clear c7
                 try clear c16
                 try clear c23
                 try clear c30
                 try clear c40
                 try clear hcz13_0 hcz13_1 hcz13_2 hcz13_3 hcz13_4 hcz13_5 hcz13_6
                 try clear hfz13_0 hfz13_1 hfz13_2 hfz13_3 hfz13_4 hfz13_5 hfz13_6
                 try clear hx206_0
                 try clear p206
                 try clear q206
                 obtain ⟨kq, x113_55, rfl, HA, HJ55, BK205, BK209, HB⟩ := hcut
                 cases kq with
                 | zero => exact absurd HA.out (by simp [spec_l14Handled.j4])
                 | succ kj55 =>
                  have H := HA.out
                  clear HA
                  simp only [spec_l14Handled.j4] at H
                  by_cases c59 : x113_55 = true
                  ·
                   subst c59
                   replace H := Rgn.ip H
                   by_cases c60 : 2 < (l0.length : Int)
                   ·
                    rw [if_pos c60] at H
                    have c60b0 : decide (2 < (l0.length : Int)) = true := decide_eq_true c60
                    have c60b1 : decide (2 < l0.length) = true := decide_eq_true (by omega)
                    clear c60
                    replace H := Option.bind_eq_some_iff.mp H
                    obtain ⟨⟨t225, t226⟩, A610, H⟩ := H
                    replace H : (if 3 < (l0.length : Int) then ((spec_Unquote.f kj55 (rdOf ByteArray.empty l0 3)).bind fun bt228 => (if t226 = true then (some (11, (⟨#[]⟩ : ByteArray), (⟨#[]⟩ : ByteArray), t207, t225, 0, bt228.2, bt228.1)) else (some (11, (⟨#[]⟩ : ByteArray), (⟨#[]⟩ : ByteArray), t207, t225, 0, bt228.2, false)))) else (none)) = some (r1, r2, r3, r4, r5, r6, r7, r8) := H
                    have A61 := Aside0.mk A610
                    clear A610
                    by_cases c62 : 3 < (l0.length : Int)
                    ·
                     rw [if_pos c62] at H
                     have c62b0 : decide (3 < (l0.length : Int)) = true := decide_eq_true c62
                     have c62b1 : decide (3 < l0.length) = true := decide_eq_true (by omega)
                     clear c62
                     replace H := Option.bind_eq_some_iff.mp H
                     obtain ⟨⟨t228, t229⟩, A630, H⟩ := H
                     replace H : (if t226 = true then (some (11, (⟨#[]⟩ : ByteArray), (⟨#[]⟩ : ByteArray), t207, t225, 0, t229, t228)) else (some (11, (⟨#[]⟩ : ByteArray), (⟨#[]⟩ : ByteArray), t207, t225, 0, t229, false))) = some (r1, r2, r3, r4, r5, r6, r7, r8) := H
                     have A63 := Aside0.mk A630
                     clear A630
                     by_cases c64 : t226 = true
                     ·
                      subst c64
                      replace H := Rgn.ip H
                      simp only [Option.some.injEq, Prod.mk.injEq] at H
                      obtain ⟨rfl, rfl, rfl, rfl, rfl, rfl, rfl, rfl⟩ := H
                      have p224 : 0 ≤ (2 : Int) := (by omega)
                      have q224 : 2 < (l0.length : Int) := of_decide_eq_true (by first | (with_reducible assumption) | assumption)
                      obtain ⟨ad224, e224, hx224_0⟩ := Kd.at_string HR0.out 2 p224 q224
                      obtain rfl : ad206 = ad224 := (by injection e224)
                      (try simp only [show (2 : Int).toNat = 2 from rfl, Nat.reduceMul, Nat.reduceEqDiff, Go.Addr.add, ↓reduceIte] at hx224_0)
                      have qi224 : (2 < l0.length) = True := eq_true (by omega)
                      (try rw [show ((2 : Int)).toNat = 2 from rfl] at hx224_0)
                      replace hx224_0 := Rgn.hx HB.out hx224_0
                      replace p224 := eq_true p224
                      replace q224 := eq_true q224
                      try go_wp2_with (first | ((with_reducible refine gate_callee (f := 60) rfl ?_); refine Rgn.gl (some 127) Tryd.func60 #[.string (rdOf ByteArray.empty l0 2)] ?_; (with_reducible refine (spec_l14Number.calls kj55 (rdOf ByteArray.empty l0 2) t225 true _ A61.out).mono ?_); rintro e w65 ⟨rfl, hb⟩; refine ⟨_, rfl, ?_⟩; replace BK205 := Aside0.mk (Rgn.bb BK205.out hb); replace BK209 := Aside0.mk (Rgn.bb BK209.out hb); replace HB := Aside0.mk (below_step (Rgn.bq HB.out) hb); (try clear hb); have p227 : 0 ≤ (3 : Int) := (by omega); have q227 : 3 < (l0.length : Int) := of_decide_eq_true (by first | (with_reducible assumption) | assumption); obtain ⟨ad227, e227, hx227_0⟩ := Kd.at_string HR0.out 3 p227 q227; obtain rfl : ad206 = ad227 := (by injection e227); (try simp only [show (3 : Int).toNat = 3 from rfl, Nat.reduceMul, Nat.reduceEqDiff, Go.Addr.add, ↓reduceIte] at hx227_0); have qi227 : (3 < l0.length) = True := eq_true (by omega); (try rw [show ((3 : Int)).toNat = 3 from rfl] at hx227_0); replace hx227_0 := Rgn.hx HB.out hx227_0; replace p227 := eq_true p227; replace q227 := eq_true q227) | ((with_reducible refine gate_callee (f := 61) rfl ?_); refine Rgn.gl (some 133) Tryd.func61 #[.string (rdOf ByteArray.empty l0 3)] ?_; (with_reducible refine (spec_Unquote.calls kj55 (rdOf ByteArray.empty l0 3) t228 t229 _ A63.out).mono ?_); rintro e w66 ⟨rfl, hb⟩; refine ⟨_, rfl, ?_⟩; replace BK205 := Aside0.mk (Rgn.bb BK205.out hb); replace BK209 := Aside0.mk (Rgn.bb BK209.out hb); replace HB := Aside0.mk (below_step (Rgn.bq HB.out) hb); (try clear hb)) | ((with_reducible refine gate_dst (N := 15) rfl ?_); (try (refine gate_guard (by rfl) ?_; dsimp only)); refine Rgn.bx 15 #[.bool false, .string (⟨#[]⟩ : ByteArray)] 77 ?_; intro gb230 hg w67 hbox hb; have BK230 := Aside0.mk (hbox); have GW230 := Aside0.mk (Rgn.ge hg HB.out); have GE230 := Aside0.mk (Rgn.ge hg HB.out); replace HB := Aside0.mk (below_step (Rgn.bq HB.out) hb); have NB205_230 := Aside0.mk (Rgn.nl hg BK205.out); have NB230_205 := Aside0.mk (Rgn.ng hg BK205.out); replace BK205 := Aside0.mk (Rgn.bb BK205.out hb); have NB209_230 := Aside0.mk (Rgn.nl hg BK209.out); have NB230_209 := Aside0.mk (Rgn.ng hg BK209.out); replace BK209 := Aside0.mk (Rgn.bb BK209.out hb); clear hb hbox hg; have hnb68 := NB230_205.out; have hnc68 := NB205_230.out; have hnb69 := NB230_209.out; have hnc69 := NB209_230.out; obtain ⟨hcz70_0, hcz70_1, hfz70_0, hfz70_1⟩ := Rgn.c2 BK230.out; have hnb71 := NB209_205.out; have hnc71 := NB205_209.out; obtain ⟨hcz72_0, hcz72_1, hcz72_2, hcz72_3, hcz72_4, hcz72_5, hcz72_6, hfz72_0, hfz72_1, hfz72_2, hfz72_3, hfz72_4, hfz72_5, hfz72_6⟩ := Rgn.cf7 BK209.out))
                      have n0_ : Aside0 ((((((w67.setCell ⟨gb230, 0, none⟩ (.bool t228)).setCell ⟨gb230, 1, none⟩ (.string t229)).setCell ⟨gb209, 0, none⟩ (.int .i64 11)).setCell ⟨gb209, 4, none⟩ (.int .i64 t225)).setCell ⟨gb209, 6, none⟩ (.string t229)).heap[gb205]? = some (.cells #[.int .i64 0, .string (⟨#[]⟩ : ByteArray), .string (⟨#[]⟩ : ByteArray), .int .i64 0, .int .i64 0, .int .i64 0, .string (⟨#[]⟩ : ByteArray)] 24 (0, 0))) := ⟨Rgn.kf BK205.out⟩
                      have n1_ : Aside0 ((((((w67.setCell ⟨gb230, 0, none⟩ (.bool t228)).setCell ⟨gb230, 1, none⟩ (.string t229)).setCell ⟨gb209, 0, none⟩ (.int .i64 11)).setCell ⟨gb209, 4, none⟩ (.int .i64 t225)).setCell ⟨gb209, 6, none⟩ (.string t229)).heap[gb209]? = some (.cells #[.int .i64 11, .string (⟨#[]⟩ : ByteArray), .string (⟨#[]⟩ : ByteArray), .int .i64 t207, .int .i64 t225, .int .i64 0, .string t229] 24 (0, 0))) := ⟨by (with_reducible repeat (first | refine blk_drewN ?_ _ | refine blk_drew ?_ | refine blk_alloc ?_ _)); refine blk_put (cs := #[.int .i64 11, .string (⟨#[]⟩ : ByteArray), .string (⟨#[]⟩ : ByteArray), .int .i64 t207, .int .i64 t225, .int .i64 0, .string (⟨#[]⟩ : ByteArray)]) ?_ 6 _ rfl; (with_reducible repeat (first | refine blk_drewN ?_ _ | refine blk_drew ?_ | refine blk_alloc ?_ _)); refine blk_put (cs := #[.int .i64 11, .string (⟨#[]⟩ : ByteArray), .string (⟨#[]⟩ : ByteArray), .int .i64 t207, .int .i64 0, .int .i64 0, .string (⟨#[]⟩ : ByteArray)]) ?_ 4 _ rfl; (with_reducible repeat (first | refine blk_drewN ?_ _ | refine blk_drew ?_ | refine blk_alloc ?_ _)); refine blk_put (cs := #[.int .i64 0, .string (⟨#[]⟩ : ByteArray), .string (⟨#[]⟩ : ByteArray), .int .i64 t207, .int .i64 0, .int .i64 0, .string (⟨#[]⟩ : ByteArray)]) ?_ 0 _ rfl; (with_reducible repeat (first | refine blk_drewN ?_ _ | refine blk_drew ?_ | refine blk_alloc ?_ _)); refine blk_far ?_ NB209_230.out _; (with_reducible repeat (first | refine blk_drewN ?_ _ | refine blk_drew ?_ | refine blk_alloc ?_ _)); refine blk_far ?_ NB209_230.out _; (with_reducible repeat (first | refine blk_drewN ?_ _ | refine blk_drew ?_ | refine blk_alloc ?_ _)); exact BK209.out⟩
                      have n2_ : Aside0 ((((((w67.setCell ⟨gb230, 0, none⟩ (.bool t228)).setCell ⟨gb230, 1, none⟩ (.string t229)).setCell ⟨gb209, 0, none⟩ (.int .i64 11)).setCell ⟨gb209, 4, none⟩ (.int .i64 t225)).setCell ⟨gb209, 6, none⟩ (.string t229)).heap[gb230]? = some (.cells #[.bool t228, .string t229] 77 (0, 0))) := ⟨by (with_reducible repeat (first | refine blk_drewN ?_ _ | refine blk_drew ?_ | refine blk_alloc ?_ _)); refine blk_far ?_ NB230_209.out _; (with_reducible repeat (first | refine blk_drewN ?_ _ | refine blk_drew ?_ | refine blk_alloc ?_ _)); refine blk_far ?_ NB230_209.out _; (with_reducible repeat (first | refine blk_drewN ?_ _ | refine blk_drew ?_ | refine blk_alloc ?_ _)); refine blk_far ?_ NB230_209.out _; (with_reducible repeat (first | refine blk_drewN ?_ _ | refine blk_drew ?_ | refine blk_alloc ?_ _)); refine blk_put (cs := #[.bool t228, .string (⟨#[]⟩ : ByteArray)]) ?_ 1 _ rfl; (with_reducible repeat (first | refine blk_drewN ?_ _ | refine blk_drew ?_ | refine blk_alloc ?_ _)); refine blk_put (cs := #[.bool false, .string (⟨#[]⟩ : ByteArray)]) ?_ 0 _ rfl; (with_reducible repeat (first | refine blk_drewN ?_ _ | refine blk_drew ?_ | refine blk_alloc ?_ _)); exact BK230.out⟩
                      have n3_ : Aside0 (Below w.heap.size w (((((w67.setCell ⟨gb230, 0, none⟩ (.bool t228)).setCell ⟨gb230, 1, none⟩ (.string t229)).setCell ⟨gb209, 0, none⟩ (.int .i64 11)).setCell ⟨gb209, 4, none⟩ (.int .i64 t225)).setCell ⟨gb209, 6, none⟩ (.string t229))) := ⟨Rgn.bq HB.out⟩
                      (try clear BK205)
                      (try clear BK209)
                      (try clear BK230)
                      (try clear HB)
                      generalize (((((w67.setCell ⟨gb230, 0, none⟩ (.bool t228)).setCell ⟨gb230, 1, none⟩ (.string t229)).setCell ⟨gb209, 0, none⟩ (.int .i64 11)).setCell ⟨gb209, 4, none⟩ (.int .i64 t225)).setCell ⟨gb209, 6, none⟩ (.string t229)) = w73 at n0_ n1_ n2_ n3_ ⊢
                      have BK205 := n0_
                      have BK209 := n1_
                      have BK230 := n2_
                      have HB := n3_
                      clear n0_ n1_ n2_ n3_
                      replace BK205 := Aside0.mk (blk_drew BK205.out)
                      replace BK209 := Aside0.mk (blk_drew BK209.out)
                      replace BK230 := Aside0.mk (blk_drew BK230.out)
                      replace HB := Aside0.mk (below_drew1 HB.out)
                      refine start_ (n := 8) (S := fun w' => w'.cell? ⟨gb209, 0, none⟩ = some (.int .i64 11) ∧ w'.cell? ⟨gb209, 1, none⟩ = some (.string (⟨#[]⟩ : ByteArray)) ∧ w'.cell? ⟨gb209, 2, none⟩ = some (.string (⟨#[]⟩ : ByteArray)) ∧ w'.cell? ⟨gb209, 3, none⟩ = some (.int .i64 t207) ∧ w'.cell? ⟨gb209, 4, none⟩ = some (.int .i64 t225) ∧ w'.cell? ⟨gb209, 5, none⟩ = some (.int .i64 0) ∧ w'.cell? ⟨gb209, 6, none⟩ = some (.string t229) ∧ w'.cell? ⟨gb230, 0, none⟩ = some (.bool t228) ∧ w'.cell? ⟨gb230, 1, none⟩ = some (.string t229)) (ds := []) #[false, false, false, false, false, false, false, false] (by kernel_rfl) rfl rfl ⟨(blk_cell BK209.out 0).trans rfl, (blk_cell BK209.out 1).trans rfl, (blk_cell BK209.out 2).trans rfl, (blk_cell BK209.out 3).trans rfl, (blk_cell BK209.out 4).trans rfl, (blk_cell BK209.out 5).trans rfl, (blk_cell BK209.out 6).trans rfl, (blk_cell BK230.out 0).trans rfl, (blk_cell BK230.out 1).trans rfl⟩ (fun hHeld => ?_); refine with_tabW spec_l14Handled.tab31 spec_l14Handled.bits31 (fun HT_ HW_ => ?_)
                      generalize w73.drew = w74 at BK205 BK209 BK230 HB hHeld ⊢
                      refine Rgn.pu HT_.out 1 141 ?_
                      refine Rgn.pu HT_.out 2 142 ?_
                      refine Rgn.pu HT_.out 3 143 ?_
                      refine Rgn.tk HT_.out HW_.out 0 140 hHeld ?_
                      refine Rgn.tk HT_.out HW_.out 4 144 hHeld ?_
                      refine Rgn.pu HT_.out 5 145 ?_
                      refine one_ (i := 6) (N := none) #[true, true, true, true, true, true, true, false] rfl rfl (one_of HT_.out (by kernel_rfl)) (by decide) (fun K hK => ?_)
                      have hs75 : w74.cell? ⟨gb205, 0, none⟩ = some (.int .i64 0) := (blk_cell BK205.out 0).trans rfl
                      have hfs75 := blk_frozen BK205.out 0
                      have hns75_1 := NB209_205.out
                      have hns75_2 := NB230_205.out
                      have hms75_1 := NB205_209.out
                      have hms75_2 := NB205_230.out
                      have hs76 : w74.cell? ⟨gb205, 1, none⟩ = some (.string (⟨#[]⟩ : ByteArray)) := (blk_cell BK205.out 1).trans rfl
                      have hfs76 := blk_frozen BK205.out 1
                      have hns76_1 := NB209_205.out
                      have hns76_2 := NB230_205.out
                      have hms76_1 := NB205_209.out
                      have hms76_2 := NB205_230.out
                      have hs77 : w74.cell? ⟨gb205, 2, none⟩ = some (.string (⟨#[]⟩ : ByteArray)) := (blk_cell BK205.out 2).trans rfl
                      have hfs77 := blk_frozen BK205.out 2
                      have hns77_1 := NB209_205.out
                      have hns77_2 := NB230_205.out
                      have hms77_1 := NB205_209.out
                      have hms77_2 := NB205_230.out
                      have hs78 : w74.cell? ⟨gb205, 3, none⟩ = some (.int .i64 0) := (blk_cell BK205.out 3).trans rfl
                      have hfs78 := blk_frozen BK205.out 3
                      have hns78_1 := NB209_205.out
                      have hns78_2 := NB230_205.out
                      have hms78_1 := NB205_209.out
                      have hms78_2 := NB205_230.out
                      have hs79 : w74.cell? ⟨gb205, 4, none⟩ = some (.int .i64 0) := (blk_cell BK205.out 4).trans rfl
                      have hfs79 := blk_frozen BK205.out 4
                      have hns79_1 := NB209_205.out
                      have hns79_2 := NB230_205.out
                      have hms79_1 := NB205_209.out
                      have hms79_2 := NB205_230.out
                      have hs80 : w74.cell? ⟨gb205, 5, none⟩ = some (.int .i64 0) := (blk_cell BK205.out 5).trans rfl
                      have hfs80 := blk_frozen BK205.out 5
                      have hns80_1 := NB209_205.out
                      have hns80_2 := NB230_205.out
                      have hms80_1 := NB205_209.out
                      have hms80_2 := NB205_230.out
                      have hs81 : w74.cell? ⟨gb205, 6, none⟩ = some (.string (⟨#[]⟩ : ByteArray)) := (blk_cell BK205.out 6).trans rfl
                      have hfs81 := blk_frozen BK205.out 6
                      have hns81_1 := NB209_205.out
                      have hns81_2 := NB230_205.out
                      have hms81_1 := NB205_209.out
                      have hms81_2 := NB205_230.out
                      refine skip_ (w1 := ?_) (by rfl) rfl ?_ ?_
                      rotate_left
                      ·
                       go_simp
                       rfl
                      refine hK.out _ _ ⟨(Rgn.far7 NB209_205.out hHeld.1), (Rgn.far7 NB209_205.out hHeld.2.1), (Rgn.far7 NB209_205.out hHeld.2.2.1), (Rgn.far7 NB209_205.out hHeld.2.2.2.1), (Rgn.far7 NB209_205.out hHeld.2.2.2.2.1), (Rgn.far7 NB209_205.out hHeld.2.2.2.2.2.1), (Rgn.far7 NB209_205.out hHeld.2.2.2.2.2.2.1), (Rgn.far7 NB230_205.out hHeld.2.2.2.2.2.2.2.1), (Rgn.far7 NB230_205.out hHeld.2.2.2.2.2.2.2.2)⟩ (fun hHeld => ?_)
                      clear hK K
                      refine Rgn.pu HT_.out 7 3 ?_
                      refine done_ (done_of HT_.out (by kernel_rfl)) ?_
                      try go_wp2
                      refine bodyPost_ret (results_ct rfl _ _ gb205 24 _ (0, 0) _ rfl (by exact Rgn.put7 (Rgn.kf BK205.out)) Tryd.underlying24 rfl (by kernel_rfl)) rfl ?_
                      exact ⟨by first | rfl | (simp [errW_none, errW_some] <;> rfl) | (simp [*, errW_none, errW_some] <;> rfl), Rgn.bq HB.out⟩
                     ·
                      replace c64 := Bool.eq_false_iff.mpr c64
                      subst c64
                      replace H := Rgn.im H
                      simp only [Option.some.injEq, Prod.mk.injEq] at H
                      obtain ⟨rfl, rfl, rfl, rfl, rfl, rfl, rfl, rfl⟩ := H
                      have p224 : 0 ≤ (2 : Int) := (by omega)
                      have q224 : 2 < (l0.length : Int) := of_decide_eq_true (by first | (with_reducible assumption) | assumption)
                      obtain ⟨ad224, e224, hx224_0⟩ := Kd.at_string HR0.out 2 p224 q224
                      obtain rfl : ad206 = ad224 := (by injection e224)
                      (try simp only [show (2 : Int).toNat = 2 from rfl, Nat.reduceMul, Nat.reduceEqDiff, Go.Addr.add, ↓reduceIte] at hx224_0)
                      have qi224 : (2 < l0.length) = True := eq_true (by omega)
                      (try rw [show ((2 : Int)).toNat = 2 from rfl] at hx224_0)
                      replace hx224_0 := Rgn.hx HB.out hx224_0
                      replace p224 := eq_true p224
                      replace q224 := eq_true q224
                      try go_wp2_with (first | ((with_reducible refine gate_callee (f := 60) rfl ?_); refine Rgn.gl (some 127) Tryd.func60 #[.string (rdOf ByteArray.empty l0 2)] ?_; (with_reducible refine (spec_l14Number.calls kj55 (rdOf ByteArray.empty l0 2) t225 false _ A61.out).mono ?_); rintro e w82 ⟨rfl, hb⟩; refine ⟨_, rfl, ?_⟩; replace BK205 := Aside0.mk (Rgn.bb BK205.out hb); replace BK209 := Aside0.mk (Rgn.bb BK209.out hb); replace HB := Aside0.mk (below_step (Rgn.bq HB.out) hb); (try clear hb); have p227 : 0 ≤ (3 : Int) := (by omega); have q227 : 3 < (l0.length : Int) := of_decide_eq_true (by first | (with_reducible assumption) | assumption); obtain ⟨ad227, e227, hx227_0⟩ := Kd.at_string HR0.out 3 p227 q227; obtain rfl : ad206 = ad227 := (by injection e227); (try simp only [show (3 : Int).toNat = 3 from rfl, Nat.reduceMul, Nat.reduceEqDiff, Go.Addr.add, ↓reduceIte] at hx227_0); have qi227 : (3 < l0.length) = True := eq_true (by omega); (try rw [show ((3 : Int)).toNat = 3 from rfl] at hx227_0); replace hx227_0 := Rgn.hx HB.out hx227_0; replace p227 := eq_true p227; replace q227 := eq_true q227) | ((with_reducible refine gate_callee (f := 61) rfl ?_); refine Rgn.gl (some 133) Tryd.func61 #[.string (rdOf ByteArray.empty l0 3)] ?_; (with_reducible refine (spec_Unquote.calls kj55 (rdOf ByteArray.empty l0 3) t228 t229 _ A63.out).mono ?_); rintro e w83 ⟨rfl, hb⟩; refine ⟨_, rfl, ?_⟩; replace BK205 := Aside0.mk (Rgn.bb BK205.out hb); replace BK209 := Aside0.mk (Rgn.bb BK209.out hb); replace HB := Aside0.mk (below_step (Rgn.bq HB.out) hb); (try clear hb)) | ((with_reducible refine gate_dst (N := 15) rfl ?_); (try (refine gate_guard (by rfl) ?_; dsimp only)); refine Rgn.bx 15 #[.bool false, .string (⟨#[]⟩ : ByteArray)] 77 ?_; intro gb230 hg w84 hbox hb; have BK230 := Aside0.mk (hbox); have GW230 := Aside0.mk (Rgn.ge hg HB.out); have GE230 := Aside0.mk (Rgn.ge hg HB.out); replace HB := Aside0.mk (below_step (Rgn.bq HB.out) hb); have NB205_230 := Aside0.mk (Rgn.nl hg BK205.out); have NB230_205 := Aside0.mk (Rgn.ng hg BK205.out); replace BK205 := Aside0.mk (Rgn.bb BK205.out hb); have NB209_230 := Aside0.mk (Rgn.nl hg BK209.out); have NB230_209 := Aside0.mk (Rgn.ng hg BK209.out); replace BK209 := Aside0.mk (Rgn.bb BK209.out hb); clear hb hbox hg; have hnb85 := NB230_205.out; have hnc85 := NB205_230.out; have hnb86 := NB230_209.out; have hnc86 := NB209_230.out; obtain ⟨hcz87_0, hcz87_1, hfz87_0, hfz87_1⟩ := Rgn.c2 BK230.out; have hnb88 := NB209_205.out; have hnc88 := NB205_209.out; obtain ⟨hcz89_0, hcz89_1, hcz89_2, hcz89_3, hcz89_4, hcz89_5, hcz89_6, hfz89_0, hfz89_1, hfz89_2, hfz89_3, hfz89_4, hfz89_5, hfz89_6⟩ := Rgn.cf7 BK209.out))
                      have n0_ : Aside0 ((((((w84.setCell ⟨gb230, 0, none⟩ (.bool t228)).setCell ⟨gb230, 1, none⟩ (.string t229)).setCell ⟨gb209, 0, none⟩ (.int .i64 11)).setCell ⟨gb209, 4, none⟩ (.int .i64 t225)).setCell ⟨gb209, 6, none⟩ (.string t229)).heap[gb205]? = some (.cells #[.int .i64 0, .string (⟨#[]⟩ : ByteArray), .string (⟨#[]⟩ : ByteArray), .int .i64 0, .int .i64 0, .int .i64 0, .string (⟨#[]⟩ : ByteArray)] 24 (0, 0))) := ⟨Rgn.kf BK205.out⟩
                      have n1_ : Aside0 ((((((w84.setCell ⟨gb230, 0, none⟩ (.bool t228)).setCell ⟨gb230, 1, none⟩ (.string t229)).setCell ⟨gb209, 0, none⟩ (.int .i64 11)).setCell ⟨gb209, 4, none⟩ (.int .i64 t225)).setCell ⟨gb209, 6, none⟩ (.string t229)).heap[gb209]? = some (.cells #[.int .i64 11, .string (⟨#[]⟩ : ByteArray), .string (⟨#[]⟩ : ByteArray), .int .i64 t207, .int .i64 t225, .int .i64 0, .string t229] 24 (0, 0))) := ⟨by (with_reducible repeat (first | refine blk_drewN ?_ _ | refine blk_drew ?_ | refine blk_alloc ?_ _)); refine blk_put (cs := #[.int .i64 11, .string (⟨#[]⟩ : ByteArray), .string (⟨#[]⟩ : ByteArray), .int .i64 t207, .int .i64 t225, .int .i64 0, .string (⟨#[]⟩ : ByteArray)]) ?_ 6 _ rfl; (with_reducible repeat (first | refine blk_drewN ?_ _ | refine blk_drew ?_ | refine blk_alloc ?_ _)); refine blk_put (cs := #[.int .i64 11, .string (⟨#[]⟩ : ByteArray), .string (⟨#[]⟩ : ByteArray), .int .i64 t207, .int .i64 0, .int .i64 0, .string (⟨#[]⟩ : ByteArray)]) ?_ 4 _ rfl; (with_reducible repeat (first | refine blk_drewN ?_ _ | refine blk_drew ?_ | refine blk_alloc ?_ _)); refine blk_put (cs := #[.int .i64 0, .string (⟨#[]⟩ : ByteArray), .string (⟨#[]⟩ : ByteArray), .int .i64 t207, .int .i64 0, .int .i64 0, .string (⟨#[]⟩ : ByteArray)]) ?_ 0 _ rfl; (with_reducible repeat (first | refine blk_drewN ?_ _ | refine blk_drew ?_ | refine blk_alloc ?_ _)); refine blk_far ?_ NB209_230.out _; (with_reducible repeat (first | refine blk_drewN ?_ _ | refine blk_drew ?_ | refine blk_alloc ?_ _)); refine blk_far ?_ NB209_230.out _; (with_reducible repeat (first | refine blk_drewN ?_ _ | refine blk_drew ?_ | refine blk_alloc ?_ _)); exact BK209.out⟩
                      have n2_ : Aside0 ((((((w84.setCell ⟨gb230, 0, none⟩ (.bool t228)).setCell ⟨gb230, 1, none⟩ (.string t229)).setCell ⟨gb209, 0, none⟩ (.int .i64 11)).setCell ⟨gb209, 4, none⟩ (.int .i64 t225)).setCell ⟨gb209, 6, none⟩ (.string t229)).heap[gb230]? = some (.cells #[.bool t228, .string t229] 77 (0, 0))) := ⟨by (with_reducible repeat (first | refine blk_drewN ?_ _ | refine blk_drew ?_ | refine blk_alloc ?_ _)); refine blk_far ?_ NB230_209.out _; (with_reducible repeat (first | refine blk_drewN ?_ _ | refine blk_drew ?_ | refine blk_alloc ?_ _)); refine blk_far ?_ NB230_209.out _; (with_reducible repeat (first | refine blk_drewN ?_ _ | refine blk_drew ?_ | refine blk_alloc ?_ _)); refine blk_far ?_ NB230_209.out _; (with_reducible repeat (first | refine blk_drewN ?_ _ | refine blk_drew ?_ | refine blk_alloc ?_ _)); refine blk_put (cs := #[.bool t228, .string (⟨#[]⟩ : ByteArray)]) ?_ 1 _ rfl; (with_reducible repeat (first | refine blk_drewN ?_ _ | refine blk_drew ?_ | refine blk_alloc ?_ _)); refine blk_put (cs := #[.bool false, .string (⟨#[]⟩ : ByteArray)]) ?_ 0 _ rfl; (with_reducible repeat (first | refine blk_drewN ?_ _ | refine blk_drew ?_ | refine blk_alloc ?_ _)); exact BK230.out⟩
                      have n3_ : Aside0 (Below w.heap.size w (((((w84.setCell ⟨gb230, 0, none⟩ (.bool t228)).setCell ⟨gb230, 1, none⟩ (.string t229)).setCell ⟨gb209, 0, none⟩ (.int .i64 11)).setCell ⟨gb209, 4, none⟩ (.int .i64 t225)).setCell ⟨gb209, 6, none⟩ (.string t229))) := ⟨Rgn.bq HB.out⟩
                      (try clear BK205)
                      (try clear BK209)
                      (try clear BK230)
                      (try clear HB)
                      generalize (((((w84.setCell ⟨gb230, 0, none⟩ (.bool t228)).setCell ⟨gb230, 1, none⟩ (.string t229)).setCell ⟨gb209, 0, none⟩ (.int .i64 11)).setCell ⟨gb209, 4, none⟩ (.int .i64 t225)).setCell ⟨gb209, 6, none⟩ (.string t229)) = w90 at n0_ n1_ n2_ n3_ ⊢
                      have BK205 := n0_
                      have BK209 := n1_
                      have BK230 := n2_
                      have HB := n3_
                      clear n0_ n1_ n2_ n3_
                      replace BK205 := Aside0.mk (blk_drew BK205.out)
                      replace BK209 := Aside0.mk (blk_drew BK209.out)
                      replace BK230 := Aside0.mk (blk_drew BK230.out)
                      replace HB := Aside0.mk (below_drew1 HB.out)
                      refine start_ (n := 8) (S := fun w' => w'.cell? ⟨gb209, 0, none⟩ = some (.int .i64 11) ∧ w'.cell? ⟨gb209, 1, none⟩ = some (.string (⟨#[]⟩ : ByteArray)) ∧ w'.cell? ⟨gb209, 2, none⟩ = some (.string (⟨#[]⟩ : ByteArray)) ∧ w'.cell? ⟨gb209, 3, none⟩ = some (.int .i64 t207) ∧ w'.cell? ⟨gb209, 4, none⟩ = some (.int .i64 t225) ∧ w'.cell? ⟨gb209, 5, none⟩ = some (.int .i64 0) ∧ w'.cell? ⟨gb209, 6, none⟩ = some (.string t229)) (ds := []) #[false, false, false, false, false, false, false, false] (by kernel_rfl) rfl rfl ⟨(blk_cell BK209.out 0).trans rfl, (blk_cell BK209.out 1).trans rfl, (blk_cell BK209.out 2).trans rfl, (blk_cell BK209.out 3).trans rfl, (blk_cell BK209.out 4).trans rfl, (blk_cell BK209.out 5).trans rfl, (blk_cell BK209.out 6).trans rfl⟩ (fun hHeld => ?_); refine with_tabW spec_l14Handled.tab31 spec_l14Handled.bits31 (fun HT_ HW_ => ?_)
                      generalize w90.drew = w91 at BK205 BK209 BK230 HB hHeld ⊢
                      refine Rgn.pu HT_.out 1 141 ?_
                      refine Rgn.pu HT_.out 2 142 ?_
                      refine Rgn.pn HT_.out 3 143 ?_
                      refine Rgn.pn HT_.out 4 144 ?_
                      refine Rgn.pu HT_.out 5 145 ?_
                      refine Rgn.tk HT_.out HW_.out 0 140 hHeld ?_
                      refine one_ (i := 6) (N := none) #[true, true, true, true, true, true, true, false] rfl rfl (one_of HT_.out (by kernel_rfl)) (by decide) (fun K hK => ?_)
                      have hs92 : w91.cell? ⟨gb205, 0, none⟩ = some (.int .i64 0) := (blk_cell BK205.out 0).trans rfl
                      have hfs92 := blk_frozen BK205.out 0
                      have hns92_1 := NB209_205.out
                      have hns92_2 := NB230_205.out
                      have hms92_1 := NB205_209.out
                      have hms92_2 := NB205_230.out
                      have hs93 : w91.cell? ⟨gb205, 1, none⟩ = some (.string (⟨#[]⟩ : ByteArray)) := (blk_cell BK205.out 1).trans rfl
                      have hfs93 := blk_frozen BK205.out 1
                      have hns93_1 := NB209_205.out
                      have hns93_2 := NB230_205.out
                      have hms93_1 := NB205_209.out
                      have hms93_2 := NB205_230.out
                      have hs94 : w91.cell? ⟨gb205, 2, none⟩ = some (.string (⟨#[]⟩ : ByteArray)) := (blk_cell BK205.out 2).trans rfl
                      have hfs94 := blk_frozen BK205.out 2
                      have hns94_1 := NB209_205.out
                      have hns94_2 := NB230_205.out
                      have hms94_1 := NB205_209.out
                      have hms94_2 := NB205_230.out
                      have hs95 : w91.cell? ⟨gb205, 3, none⟩ = some (.int .i64 0) := (blk_cell BK205.out 3).trans rfl
                      have hfs95 := blk_frozen BK205.out 3
                      have hns95_1 := NB209_205.out
                      have hns95_2 := NB230_205.out
                      have hms95_1 := NB205_209.out
                      have hms95_2 := NB205_230.out
                      have hs96 : w91.cell? ⟨gb205, 4, none⟩ = some (.int .i64 0) := (blk_cell BK205.out 4).trans rfl
                      have hfs96 := blk_frozen BK205.out 4
                      have hns96_1 := NB209_205.out
                      have hns96_2 := NB230_205.out
                      have hms96_1 := NB205_209.out
                      have hms96_2 := NB205_230.out
                      have hs97 : w91.cell? ⟨gb205, 5, none⟩ = some (.int .i64 0) := (blk_cell BK205.out 5).trans rfl
                      have hfs97 := blk_frozen BK205.out 5
                      have hns97_1 := NB209_205.out
                      have hns97_2 := NB230_205.out
                      have hms97_1 := NB205_209.out
                      have hms97_2 := NB205_230.out
                      have hs98 : w91.cell? ⟨gb205, 6, none⟩ = some (.string (⟨#[]⟩ : ByteArray)) := (blk_cell BK205.out 6).trans rfl
                      have hfs98 := blk_frozen BK205.out 6
                      have hns98_1 := NB209_205.out
                      have hns98_2 := NB230_205.out
                      have hms98_1 := NB205_209.out
                      have hms98_2 := NB205_230.out
                      refine skip_ (w1 := ?_) (by rfl) rfl ?_ ?_
                      rotate_left
                      ·
                       go_simp
                       rfl
                      refine hK.out _ _ ⟨(Rgn.far7 NB209_205.out hHeld.1), (Rgn.far7 NB209_205.out hHeld.2.1), (Rgn.far7 NB209_205.out hHeld.2.2.1), (Rgn.far7 NB209_205.out hHeld.2.2.2.1), (Rgn.far7 NB209_205.out hHeld.2.2.2.2.1), (Rgn.far7 NB209_205.out hHeld.2.2.2.2.2.1), (Rgn.far7 NB209_205.out hHeld.2.2.2.2.2.2)⟩ (fun hHeld => ?_)
                      clear hK K
                      refine Rgn.pu HT_.out 7 3 ?_
                      refine done_ (done_of HT_.out (by kernel_rfl)) ?_
                      try go_wp2
                      refine bodyPost_ret (results_ct rfl _ _ gb205 24 _ (0, 0) _ rfl (by exact Rgn.put7 (Rgn.kf BK205.out)) Tryd.underlying24 rfl (by kernel_rfl)) rfl ?_
                      exact ⟨by first | rfl | (simp [errW_none, errW_some] <;> rfl) | (simp [*, errW_none, errW_some] <;> rfl), Rgn.bq HB.out⟩
                    ·
                     rw [if_neg c62] at H
                     exact absurd H (by simp)
                   ·
                    rw [if_neg c60] at H
                    exact absurd H (by simp)
                  ·
                   replace c59 := Bool.eq_false_iff.mpr c59
                   subst c59
                   replace H := Rgn.im H
                   simp only [Option.some.injEq, Prod.mk.injEq] at H
                   obtain ⟨rfl, rfl, rfl, rfl, rfl, rfl, rfl, rfl⟩ := H
                   have hnb99 := NB209_205.out
                   have hnc99 := NB205_209.out
                   obtain ⟨hcz100_0, hcz100_1, hcz100_2, hcz100_3, hcz100_4, hcz100_5, hcz100_6, hfz100_0, hfz100_1, hfz100_2, hfz100_3, hfz100_4, hfz100_5, hfz100_6⟩ := Rgn.cf7 BK209.out
                   obtain ⟨hcz101_0, hcz101_1, hcz101_2, hcz101_3, hcz101_4, hcz101_5, hcz101_6, hfz101_0, hfz101_1, hfz101_2, hfz101_3, hfz101_4, hfz101_5, hfz101_6⟩ := Rgn.cf7 BK205.out
                   go_wp2
                   refine bodyPost_ret (results_ct rfl _ _ gb205 24 _ (0, 0) _ rfl (by exact Rgn.put7 (Rgn.kf BK205.out)) Tryd.underlying24 rfl (by kernel_rfl)) rfl ?_
                   exact ⟨by first | rfl | (simp [errW_none, errW_some] <;> rfl) | (simp [*, errW_none, errW_some] <;> rfl), Rgn.bq HB.out⟩
   ·
    replace c7 := Bool.eq_false_iff.mpr c7
    subst c7
    replace H := Rgn.im H
    simp only [Option.some.injEq, Prod.mk.injEq] at H
    obtain ⟨rfl, rfl, rfl, rfl, rfl, rfl, rfl, rfl⟩ := H
    go_enter Tryd.func31, Tryd.ntmps31
    go_wp2_with (first | ((with_reducible refine gate_dst (N := 2) rfl ?_); (try (refine gate_guard (by rfl) ?_; dsimp only)); refine Rgn.bx 2 #[.int .i64 0, .string (⟨#[]⟩ : ByteArray), .string (⟨#[]⟩ : ByteArray), .int .i64 0, .int .i64 0, .int .i64 0, .string (⟨#[]⟩ : ByteArray)] 24 ?_; intro gb205 hg w102 hbox hb; have BK205 := Aside0.mk (hbox); have GW205 := Aside0.mk (Rgn.ge hg HB.out); have GE205 := Aside0.mk (Rgn.ge hg HB.out); replace HB := Aside0.mk (below_step (Rgn.bq HB.out) hb); clear hb hbox hg; have p206 : 0 ≤ (1 : Int) := (by omega); have q206 : 1 < (l0.length : Int) := of_decide_eq_true (by first | (with_reducible assumption) | assumption); obtain ⟨ad206, e206, hx206_0⟩ := Kd.at_string HR0.out 1 p206 q206; cases e206; (try simp only [show (1 : Int).toNat = 1 from rfl, Nat.reduceMul, Nat.reduceEqDiff, Go.Addr.add, ↓reduceIte] at hx206_0); have qi206 : (1 < l0.length) = True := eq_true (by omega); (try rw [show ((1 : Int)).toNat = 1 from rfl] at hx206_0); replace hx206_0 := Rgn.hx HB.out hx206_0; replace p206 := eq_true p206; replace q206 := eq_true q206) | ((with_reducible refine gate_callee (f := 60) rfl ?_); refine Rgn.gl (some 24) Tryd.func60 #[.string (rdOf ByteArray.empty l0 1)] ?_; (with_reducible refine (spec_l14Number.calls k (rdOf ByteArray.empty l0 1) t207 false _ A6.out).mono ?_); rintro e w103 ⟨rfl, hb⟩; refine ⟨_, rfl, ?_⟩; replace BK205 := Aside0.mk (Rgn.bb BK205.out hb); replace HB := Aside0.mk (below_step (Rgn.bq HB.out) hb); (try clear hb)) | ((with_reducible refine gate_dst (N := 6) rfl ?_); (try (refine gate_guard (by rfl) ?_; dsimp only)); refine Rgn.bx 6 #[.int .i64 0, .string (⟨#[]⟩ : ByteArray), .string (⟨#[]⟩ : ByteArray), .int .i64 0, .int .i64 0, .int .i64 0, .string (⟨#[]⟩ : ByteArray)] 24 ?_; intro gb209 hg w104 hbox hb; have BK209 := Aside0.mk (hbox); have GW209 := Aside0.mk (Rgn.ge hg HB.out); have GE209 := Aside0.mk (Rgn.ge hg HB.out); replace HB := Aside0.mk (below_step (Rgn.bq HB.out) hb); have NB205_209 := Aside0.mk (Rgn.nl hg BK205.out); have NB209_205 := Aside0.mk (Rgn.ng hg BK205.out); replace BK205 := Aside0.mk (Rgn.bb BK205.out hb); clear hb hbox hg; have hnb105 := NB209_205.out; have hnc105 := NB205_209.out; obtain ⟨hcz106_0, hcz106_1, hcz106_2, hcz106_3, hcz106_4, hcz106_5, hcz106_6, hfz106_0, hfz106_1, hfz106_2, hfz106_3, hfz106_4, hfz106_5, hfz106_6⟩ := Rgn.cf7 BK209.out; obtain ⟨hcz107_0, hcz107_1, hcz107_2, hcz107_3, hcz107_4, hcz107_5, hcz107_6, hfz107_0, hfz107_1, hfz107_2, hfz107_3, hfz107_4, hfz107_5, hfz107_6⟩ := Rgn.cf7 BK205.out))
    refine bodyPost_ret (results_ct rfl _ _ gb205 24 _ (0, 0) _ rfl (by exact Rgn.put7 (Rgn.kf BK205.out)) Tryd.underlying24 rfl (by kernel_rfl)) rfl ?_
    exact ⟨by first | rfl | (simp [errW_none, errW_some] <;> rfl) | (simp [*, errW_none, errW_some] <;> rfl), Rgn.bq HB.out⟩
  ·
   rw [if_neg c5] at H
   exact absurd H (by simp)

end Go.Proofs.YtkehfdadplpaeaaDoor.PFnExactParseLine
