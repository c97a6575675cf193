-- written by a program of this session (wip/src/print2.py)
import Derived.Test.YtkehfdadplpaeaaDoorPFnExactParseLinex0
import Derived.Test.YtkehfdadplpaeaaDoorPFnExactParseLinex1
import Derived.Test.YtkehfdadplpaeaaDoorPFnExactParseLinex8
import Derived.Test.YtkehfdadplpaeaaDoorPFnExactParseLinex9
namespace Go.Proofs.YtkehfdadplpaeaaDoor.PFnExactParseLine
open Go.RowKit Go.Proofs.YtkehfdadplpaeaaDoorW.PrintWords Go.Proofs.YtkehfdadplpaeaaDoorW.PrintLast Go.Proofs.YtkehfdadplpaeaaDoorW.PrintMore
attribute [local go_sem] max2_int min2_int max_two min_two max_three min_three max_four min_four   -- for this text's walks alone
set_option linter.unusedVariables false
set_option linter.unusedSimpArgs false

attribute [local go_sem high] eqA77
/-! ### impl_ParseLine: function 8 -/
mutual
def impl_ParseLine.j0 : Nat → ByteArray → Bool → Option (Int × Int × ByteArray × ByteArray × Int × Int × Int × ByteArray × List Int)
 | 0, _, _ => none
 | k + 1, x3, x33 => if x33 = true then (some (0, 0, (⟨#[]⟩ : ByteArray), (⟨#[]⟩ : ByteArray), 0, 0, 0, (⟨#[]⟩ : ByteArray), ([] : List Int))) else ((strings_Split.f x3 (⟨#[32]⟩ : ByteArray)).bind fun t291 => (impl_ParseLine.l0 k t291 t291 (t291.length : Int) 0))
def impl_ParseLine.l0 : Nat → List ByteArray → List ByteArray → Int → Int → Option (Int × Int × ByteArray × ByteArray × Int × Int × Int × ByteArray × List Int)
 | 0, _, _, _, _ => none
 | k + 1, x4, x37, x38, x39 => if x39 < x38 then (if 0 ≤ x39 then (if x39 < (x37.length : Int) then (if (rdOf ByteArray.empty x37 x39).toList = ([] : List UInt8) then (some (0, 0, (⟨#[]⟩ : ByteArray), (⟨#[]⟩ : ByteArray), 0, 0, 0, (⟨#[]⟩ : ByteArray), ([] : List Int))) else (impl_ParseLine.l0 k x4 x37 x38 (wrap64 (x39 + 1)))) else (none)) else (none)) else (if 0 < (x4.length : Int) then (if 1 ≤ (x4.length : Int) then ((some (x4.drop (1 : Int).toNat : List ByteArray)).bind fun y296 => (if (rdOf ByteArray.empty x4 0).toList = ([116, 114, 101, 101] : List UInt8) then (impl_ParseLine.j2 k y296 (rdOf ByteArray.empty x4 0) (rdOf ByteArray.empty x4 0) ((rdOf ByteArray.empty x4 0).toList == ([116, 114, 101, 101] : List UInt8))) else (if (rdOf ByteArray.empty x4 0).toList = ([99, 104, 101, 99, 107] : List UInt8) then (impl_ParseLine.j2 k y296 (rdOf ByteArray.empty x4 0) (rdOf ByteArray.empty x4 0) ((rdOf ByteArray.empty x4 0).toList == ([99, 104, 101, 99, 107] : List UInt8))) else (impl_ParseLine.j2 k y296 (rdOf ByteArray.empty x4 0) (rdOf ByteArray.empty x4 0) ((rdOf ByteArray.empty x4 0).toList == ([109, 111, 117, 110, 116] : List UInt8)))))) else (none)) else (none))
def impl_ParseLine.j2 : Nat → List ByteArray → ByteArray → ByteArray → Bool → Option (Int × Int × ByteArray × ByteArray × Int × Int × Int × ByteArray × List Int)
 | 0, _, _, _, _ => none
 | k + 1, x4, x7, x52, x53 => if x53 = true then (if (x4.length : Int) > 0 then (some (0, 0, (⟨#[]⟩ : ByteArray), (⟨#[]⟩ : ByteArray), 0, 0, 0, (⟨#[]⟩ : ByteArray), ([] : List Int))) else ((Shp.threeO x7).bind fun t299 => (some (t299, 0, (⟨#[]⟩ : ByteArray), (⟨#[]⟩ : ByteArray), 0, 0, 0, (⟨#[]⟩ : ByteArray), ([] : List Int))))) else (if x52.toList = ([97, 114, 109] : List UInt8) then (impl_ParseLine.j3 k x4 x7 (x52.toList == ([97, 114, 109] : List UInt8))) else (impl_ParseLine.j3 k x4 x7 (x52.toList == ([99, 114, 97, 115, 104] : List UInt8))))
def impl_ParseLine.j3 : Nat → List ByteArray → ByteArray → Bool → Option (Int × Int × ByteArray × ByteArray × Int × Int × Int × ByteArray × List Int)
 | 0, _, _, _ => none
 | k + 1, x4, x7, x66 => if x66 = true then (impl_ParseLine.l1 k x7 x4 (x4.length : Int) 0 0 0 (⟨#[]⟩ : ByteArray) (⟨#[]⟩ : ByteArray) 0 0 0 (⟨#[]⟩ : ByteArray) ([] : List Int)) else ((Shp.formO x7).bind fun t308 => ((Shp.kindO x7).bind fun t309 => (if t309 = 0 then (impl_ParseLine.j6 k x4 true t309 t308) else (impl_ParseLine.j6 k x4 ((x4.length : Int) != (t308.size : Int)) t309 t308))))
def impl_ParseLine.l1 : Nat → ByteArray → List ByteArray → Int → Int → Int → Int → ByteArray → ByteArray → Int → Int → Int → ByteArray → List Int → Option (Int × Int × ByteArray × ByteArray × Int × Int × Int × ByteArray × List Int)
 | 0, _, _, _, _, _, _, _, _, _, _, _, _, _ => none
 | k + 1, x7, x69, x70, x71, x301000, x301001, x301002, x301003, x301004, x301005, x301006, x301007, x301008 => if x71 < x70 then (if 0 ≤ x71 then (if x71 < (x69.length : Int) then ((impl_number.f k (rdOf ByteArray.empty x69 x71)).bind fun bt302 => (if bt302.2 = true then (if x301008.length < 17592186044416 then (impl_ParseLine.l1 k x7 x69 x70 (wrap64 (x71 + 1)) x301000 x301001 x301002 x301003 x301004 x301005 x301006 x301007 (x301008 ++ [bt302.1])) else (none)) else (some (0, 0, (⟨#[]⟩ : ByteArray), (⟨#[]⟩ : ByteArray), 0, 0, 0, (⟨#[]⟩ : ByteArray), ([] : List Int))))) else (none)) else (none)) else (if x7.toList = ([97, 114, 109] : List UInt8) then (if (wrap64 ((x301008.length : Int) - 1)) < 0 then (impl_ParseLine.j5 k (wrap64 ((x301008.length : Int) - 1)) true 4 x301001 x301002 x301003 x301004 x301005 x301006 x301007 x301008) else (if 0 < (x301008.length : Int) then (impl_ParseLine.j5 k (wrap64 ((x301008.length : Int) - 1)) (decide ((rd x301008 0) < 1)) 4 x301001 x301002 x301003 x301004 x301005 x301006 x301007 x301008) else (none))) else (if (x301008.length : Int) > 600 then (some (0, 0, (⟨#[]⟩ : ByteArray), (⟨#[]⟩ : ByteArray), 0, 0, 0, (⟨#[]⟩ : ByteArray), ([] : List Int))) else (some (5, x301001, x301002, x301003, x301004, x301005, x301006, x301007, x301008))))
def impl_ParseLine.j5 : Nat → Int → Bool → Int → Int → ByteArray → ByteArray → Int → Int → Int → ByteArray → List Int → Option (Int × Int × ByteArray × ByteArray × Int × Int × Int × ByteArray × List Int)
 | 0, _, _, _, _, _, _, _, _, _, _, _ => none
 | k + 1, x13, x107, x301000, x301001, x301002, x301003, x301004, x301005, x301006, x301007, x301008 => if x107 = true then (some (0, 0, (⟨#[]⟩ : ByteArray), (⟨#[]⟩ : ByteArray), 0, 0, 0, (⟨#[]⟩ : ByteArray), ([] : List Int))) else (if x13 > 600 then (some (0, 0, (⟨#[]⟩ : ByteArray), (⟨#[]⟩ : ByteArray), 0, 0, 0, (⟨#[]⟩ : ByteArray), ([] : List Int))) else (some (x301000, x301001, x301002, x301003, x301004, x301005, x301006, x301007, x301008)))
def impl_ParseLine.j6 : Nat → List ByteArray → Bool → Int → ByteArray → Option (Int × Int × ByteArray × ByteArray × Int × Int × Int × ByteArray × List Int)
 | 0, _, _, _, _ => none
 | k + 1, x4, x128, x311000, x311001 => if x128 = true then (some (0, 0, (⟨#[]⟩ : ByteArray), (⟨#[]⟩ : ByteArray), 0, 0, 0, (⟨#[]⟩ : ByteArray), ([] : List Int))) else (impl_ParseLine.l2 k 0 x4 (x4.length : Int) 0 x311000 x311001 x311000 (⟨#[]⟩ : ByteArray) (⟨#[]⟩ : ByteArray) 0 0 0 (⟨#[]⟩ : ByteArray))
def impl_ParseLine.l2 : Nat → Int → List ByteArray → Int → Int → Int → ByteArray → Int → ByteArray → ByteArray → Int → Int → Int → ByteArray → Option (Int × Int × ByteArray × ByteArray × Int × Int × Int × ByteArray × List Int)
 | 0, _, _, _, _, _, _, _, _, _, _, _, _, _ => none
 | k + 1, x17, x133, x134, x135, x311000, x311001, x312000, x312001, x312002, x312003, x312004, x312005, x312006 => if x135 < x134 then (if 0 ≤ x135 then (if x135 < (x133.length : Int) then ((impl_number.f k (rdOf ByteArray.empty x133 x135)).bind fun bt313 => (if x135 < (x311001.size : Int) then (if (bt x311001 x135) = 80 then (impl_ParseLine.l2 k x17 x133 x134 (wrap64 (x135 + 1)) x311000 x311001 x312000 (rdOf ByteArray.empty x133 x135) x312002 x312003 x312004 x312005 x312006) else (if (bt x311001 x135) = 81 then (impl_ParseLine.l2 k x17 x133 x134 (wrap64 (x135 + 1)) x311000 x311001 x312000 x312001 (rdOf ByteArray.empty x133 x135) x312003 x312004 x312005 x312006) else (if (bt x311001 x135) = 68 then ((impl_Unquote.f k (rdOf ByteArray.empty x133 x135)).bind fun bt315 => (if (!bt315.1 && (bt315.2.toList == ([] : List UInt8))) = true then (some (0, 0, (⟨#[]⟩ : ByteArray), (⟨#[]⟩ : ByteArray), 0, 0, 0, (⟨#[]⟩ : ByteArray), ([] : List Int))) else (impl_ParseLine.l2 k x17 x133 x134 (wrap64 (x135 + 1)) x311000 x311001 x312000 x312001 x312002 x312003 x312004 x312005 bt315.2))) else (if (bt x311001 x135) = 87 then (if ((rdOf ByteArray.empty x133 x135).size : Int) = 1 then (if 0 < ((rdOf ByteArray.empty x133 x135).size : Int) then (if (bt (rdOf ByteArray.empty x133 x135) 0) < 97 then (impl_ParseLine.j8 k x17 (rdOf ByteArray.empty x133 x135) x133 x134 x135 true x311000 x311001 x312000 x312001 x312002 x312003 x312004 x312005 x312006) else (impl_ParseLine.j8 k x17 (rdOf ByteArray.empty x133 x135) x133 x134 x135 (decide ((bt (rdOf ByteArray.empty x133 x135) 0) > 122)) x311000 x311001 x312000 x312001 x312002 x312003 x312004 x312005 x312006)) else (none)) else (impl_ParseLine.j8 k x17 (rdOf ByteArray.empty x133 x135) x133 x134 x135 true x311000 x311001 x312000 x312001 x312002 x312003 x312004 x312005 x312006)) else (if bt313.2 = true then (if (bt x311001 x135) = 78 then (impl_ParseLine.l2 k x17 x133 x134 (wrap64 (x135 + 1)) x311000 x311001 x312000 x312001 x312002 x312003 bt313.1 x312005 x312006) else (if (bt x311001 x135) = 83 then (impl_ParseLine.l2 k x17 x133 x134 (wrap64 (x135 + 1)) x311000 x311001 x312000 x312001 x312002 x312003 x312004 bt313.1 x312006) else (if (bt x311001 x135) = 72 then (impl_ParseLine.l2 k x17 x133 x134 (wrap64 (x135 + 1)) x311000 x311001 x312000 x312001 x312002 bt313.1 x312004 x312005 x312006) else (if (bt x311001 x135) = 70 then ((impl_in.f bt313.1 0 3000).bind fun t322 => (if t322 = true then (impl_ParseLine.l2 k bt313.1 x133 x134 (wrap64 (x135 + 1)) x311000 x311001 x312000 x312001 x312002 x312003 x312004 x312005 x312006) else (some (0, 0, (⟨#[]⟩ : ByteArray), (⟨#[]⟩ : ByteArray), 0, 0, 0, (⟨#[]⟩ : ByteArray), ([] : List Int))))) else (impl_ParseLine.l2 k x17 x133 x134 (wrap64 (x135 + 1)) x311000 x311001 x312000 x312001 x312002 x312003 x312004 x312005 x312006))))) else (some (0, 0, (⟨#[]⟩ : ByteArray), (⟨#[]⟩ : ByteArray), 0, 0, 0, (⟨#[]⟩ : ByteArray), ([] : List Int)))))))) else (none))) else (none)) else (none)) else (some (1, x312000, x312001, x312002, x312003, x312004, x312005, x312006, ([] : List Int)))
def impl_ParseLine.j8 : Nat → Int → ByteArray → List ByteArray → Int → Int → Bool → Int → ByteArray → Int → ByteArray → ByteArray → Int → Int → Int → ByteArray → Option (Int × Int × ByteArray × ByteArray × Int × Int × Int × ByteArray × List Int)
 | 0, _, _, _, _, _, _, _, _, _, _, _, _, _, _, _ => none
 | k + 1, x17, x19, x133, x134, x135, x208, x311000, x311001, x312000, x312001, x312002, x312003, x312004, x312005, x312006 => if x208 = true then (some (0, 0, (⟨#[]⟩ : ByteArray), (⟨#[]⟩ : ByteArray), 0, 0, 0, (⟨#[]⟩ : ByteArray), ([] : List Int))) else (if 0 ≤ x17 then (if (x17 : Int).toNat ≤ 281474976710656 then ((some (List.replicate (x17 : Int).toNat 0 : List Int)).bind fun y318 => (impl_ParseLine.l3 k x17 x19 y318 x133 x134 x135 (y318.length : Int) 0 x311000 x311001 x312000 x312001 x312002 x312003 x312004 x312005 x312006)) else (none)) else (none))
def impl_ParseLine.l3 : Nat → Int → ByteArray → List Int → List ByteArray → Int → Int → Int → Int → Int → ByteArray → Int → ByteArray → ByteArray → Int → Int → Int → ByteArray → Option (Int × Int × ByteArray × ByteArray × Int × Int × Int × ByteArray × List Int)
 | 0, _, _, _, _, _, _, _, _, _, _, _, _, _, _, _, _, _ => none
 | k + 1, x17, x19, x23, x133, x134, x135, x213, x214, x311000, x311001, x312000, x312001, x312002, x312003, x312004, x312005, x312006 => if x214 < x213 then (if 0 < (x19.size : Int) then (if 0 ≤ x214 then (if x214 < (x23.length : Int) then (impl_ParseLine.l3 k x17 x19 (x23.set (x214 : Int).toNat ((97 + ((Int.tmod (wrap64 ((((bt x19 0) - 97) % 256) + x214)) 26) % 256)) % 256)) x133 x134 x135 x213 (wrap64 (x214 + 1)) x311000 x311001 x312000 x312001 x312002 x312003 x312004 x312005 x312006) else (none)) else (none)) else (none)) else (impl_ParseLine.l2 k x17 x133 x134 (wrap64 (x135 + 1)) x311000 x311001 x312000 x312001 x312002 x312003 x312004 x312005 (strOfNums x23))
end
def impl_ParseLine.f (k : Nat) (l0 : List Int) : Option (Int × Int × ByteArray × ByteArray × Int × Int × Int × ByteArray × List Int) := if ((strOfNums l0).size : Int) > 65536 then (impl_ParseLine.j0 k (strOfNums l0) true) else (impl_ParseLine.j0 k (strOfNums l0) ((strOfNums l0).toList == ([] : List UInt8)))
set_option maxHeartbeats 8000000 in
set_option maxRecDepth 100000 in
theorem impl_ParseLine.calls (k : Nat) (A0 : Option Addr) (c0 : Nat) (l0 : List Int) (r1 : Int) (r2 : Int) (r3 : ByteArray) (r4 : ByteArray) (r5 : Int) (r6 : Int) (r7 : Int) (r8 : ByteArray) (r9 : List Int) (w : World) (hr0 : Kd.C (Kd.int .u8) w A0 l0.length l0) (hc0 : l0.length ≤ c0) (h : impl_ParseLine.f k l0 = some (r1, r2, r3, r4, r5, r6, r7, r8, r9)) (hG0 : Shp.GlobS w) :
  Calls Tryd.prog 8 #[.slice A0 l0.length c0] w fun e w' => ∃ v8_ : Value, e = .returned (.agg #[.int .i64 r1, .int .i64 r2, .string r3, .string r4, .int .i64 r5, .int .i64 r6, .int .i64 r7, .string r8, v8_]) ∧ Kd.R (Kd.int .i64) 2 w' w.heap.size (fun _ => True) v8_ r9 ∧ Below w.heap.size w w' := by
 have hu27 := Tryd.underlying27
 have hu73 := Tryd.underlying73
 have hu24 := Tryd.underlying24
 have hu77 := Tryd.underlying77
 have HR0 := Aside0.mk hr0
 have HC0 := Aside0.mk hc0
 clear hr0 hc0
 have HB := Aside0.mk (Below.refl w.heap.size w)
 obtain ⟨hGm, bm, ems, ck, hGc, hGb, hGl⟩ := hG0
 have GM : Aside0 (GlobM w) := ⟨hGm⟩
 have GC := Aside0.mk hGc
 have GB := Aside0.mk hGb
 have GL := Aside0.mk hGl
 clear hGm hGc hGb hGl
 have H : (if ((strOfNums l0).size : Int) > 65536 then (impl_ParseLine.j0 k (strOfNums l0) true) else (impl_ParseLine.j0 k (strOfNums l0) ((strOfNums l0).toList == ([] : List UInt8)))) = some (r1, r2, r3, r4, r5, r6, r7, r8, r9) := h
 clear h
 have HC2 := Aside0.mk H
 clear H
 go_enter Tryd.func8, Tryd.ntmps8
 go_upto_region 2 with (first | ((with_reducible refine gate_dst (N := 2) rfl ?_); (try (refine gate_guard (by rfl) ?_; dsimp only)); refine Rgn.bx 2 #[.int .i64 0, .int .i64 0, .string (⟨#[]⟩ : ByteArray), .string (⟨#[]⟩ : ByteArray), .int .i64 0, .int .i64 0, .int .i64 0, .string (⟨#[]⟩ : ByteArray), .slice none 0 0] 27 ?_; intro gb290 hg w3 hbox hb; have BK290 := Aside0.mk (hbox); have GW290 := Aside0.mk (Rgn.ge hg HB.out); have GE290 := Aside0.mk (Rgn.ge hg HB.out); replace HB := Aside0.mk (below_step (Rgn.bq HB.out) hb); clear hb hbox hg; have hcv4 := Kd.C_string (P := Tryd.prog) (A := A0) (c := c0) Tryd.underlying22 Tryd.underlying5 Tryd.underlying9 (Kd.C_below HR0.out HB.out)))
 repeat (go_quiet (fail); go_upto_region 2 with (first | ((with_reducible refine gate_dst (N := 2) rfl ?_); (try (refine gate_guard (by rfl) ?_; dsimp only)); refine Rgn.bx 2 #[.int .i64 0, .int .i64 0, .string (⟨#[]⟩ : ByteArray), .string (⟨#[]⟩ : ByteArray), .int .i64 0, .int .i64 0, .int .i64 0, .string (⟨#[]⟩ : ByteArray), .slice none 0 0] 27 ?_; intro gb290 hg w3 hbox hb; have BK290 := Aside0.mk (hbox); have GW290 := Aside0.mk (Rgn.ge hg HB.out); have GE290 := Aside0.mk (Rgn.ge hg HB.out); replace HB := Aside0.mk (below_step (Rgn.bq HB.out) hb); clear hb hbox hg; have hcv4 := Kd.C_string (P := Tryd.prog) (A := A0) (c := c0) Tryd.underlying22 Tryd.underlying5 Tryd.underlying9 (Kd.C_below HR0.out HB.out))))
 (try simp only [Act.put, List.setIfInBounds_toArray, List.set_cons_zero, List.set_cons_succ])
 go_cut [33] from 33 to 34 (fun v33 wc => ∃ (kq : Nat) (x33_1 : Bool), v33 = .bool x33_1 ∧ Aside0 (impl_ParseLine.j0 kq (strOfNums l0) x33_1 = some (r1, r2, r3, r4, r5, r6, r7, r8, r9)) ∧ Aside0 (kq ≤ k) ∧ Aside0 (wc.heap[gb290]? = some (.cells #[.int .i64 0, .int .i64 0, .string (⟨#[]⟩ : ByteArray), .string (⟨#[]⟩ : ByteArray), .int .i64 0, .int .i64 0, .int .i64 0, .string (⟨#[]⟩ : ByteArray), (.slice none 0 0)] 27 (0, 0))) ∧ Aside0 (Below w.heap.size w wc))
 case first =>
  have H := HC2.out
  clear HC2
  by_cases c5 : ((strOfNums l0).size : Int) > 65536
  ·
   rw [if_pos c5] at H
   have c5b0 : decide (65536 < ((strOfNums l0).size : Int)) = true := decide_eq_true c5
   have c5b1 : decide (65536 < (strOfNums l0).size) = true := decide_eq_true (by omega)
   clear c5
   (first | rw [c5b0] | (simp only [i64_w, i32_w]; rw [c5b0]) | skip)
   have H' := Aside0.mk H
   clear H
   go_wp2
   repeat (go_quiet (fail); try go_wp2)
   go_meet
   case rel => exact ⟨_, (true), (by first | rfl | (simp; done) | (simp [*]; done)), H', ⟨by first | omega | exact Nat.le_refl _⟩, ⟨Rgn.kb BK290.out⟩, ⟨Rgn.bq HB.out⟩⟩
  ·
   rw [if_neg c5] at H
   have c5b0 : decide (65536 < ((strOfNums l0).size : Int)) = false := decide_eq_false c5
   have c5b1 : decide (65536 < (strOfNums l0).size) = false := decide_eq_false (by omega)
   clear c5
   (first | rw [c5b0] | (simp only [i64_w, i32_w]; rw [c5b0]) | skip)
   have H' := Aside0.mk H
   clear H
   go_wp2
   repeat (go_quiet (fail); try go_wp2)
   go_meet
   case rel => exact ⟨_, (((strOfNums l0).toList == ([] : List UInt8))), (by first | rfl | (simp; done) | (simp [*]; done)), H', ⟨by first | omega | exact Nat.le_refl _⟩, ⟨Rgn.kb BK290.out⟩, ⟨Rgn.bq HB.out⟩⟩
 case rest =>
  clear HC2
  try clear hcv4
  obtain ⟨kq, x33_1, rfl, HA, HJ1, BK290, HB⟩ := hcut
  cases kq with
  | zero => exact absurd HA.out (by simp [impl_ParseLine.j0])
  | succ kj1 =>
   have H := HA.out
   clear HA
   simp only [impl_ParseLine.j0] at H
   by_cases c6 : x33_1 = true
   ·
    subst c6
    replace H := Rgn.ip H
    simp only [Option.some.injEq, Prod.mk.injEq] at H
    obtain ⟨rfl, rfl, rfl, rfl, rfl, rfl, rfl, rfl, rfl⟩ := H
    obtain ⟨hcz7_0, hcz7_1, hcz7_2, hcz7_3, hcz7_4, hcz7_5, hcz7_6, hcz7_7, hcz7_8, hfz7_0, hfz7_1, hfz7_2, hfz7_3, hfz7_4, hfz7_5, hfz7_6, hfz7_7, hfz7_8⟩ := Rgn.cf9 BK290.out
    go_wp2
    repeat (go_quiet (fail); try go_wp2)
    refine bodyPost_ret (results_cell_row rfl _ _ gb290 27 _ (0, 0) _ rfl (by exact Rgn.put9 (Rgn.kf BK290.out)) Tryd.underlying27 rfl (by kernel_rfl)) rfl ?_
    exact ⟨_, by first | rfl | (simp [errW_none, errW_some] <;> rfl) | (simp [*, errW_none, errW_some] <;> rfl), by first | exact Kd.R_nil _ _ _ _ _ | exact Kd.N_nil _ _ _ _ _ | exact Kd.V_nil _ _ _ _ _ | exact Kd.Q_nil _ _ _ _ _ | exact Kd.S_nil _ _ _ _ _, Rgn.bq HB.out⟩
   ·
    replace c6 := Bool.eq_false_iff.mpr c6
    subst c6
    replace H := Rgn.im H
    replace H := Option.bind_eq_some_iff.mp H
    obtain ⟨t291, A80, H⟩ := H
    replace H : (impl_ParseLine.l0 kj1 t291 t291 (t291.length : Int) 0) = some (r1, r2, r3, r4, r5, r6, r7, r8, r9) := H
    have A8 := Aside0.mk A80
    clear A80
    have H' := Aside0.mk H
    clear H
    go_wp2_with (first | (go_at_call 32; (with_reducible refine (strings_Split.calls (strOfNums l0) (⟨#[32]⟩ : ByteArray) t291 _ A8.out (GlobM.below GM.out (Rgn.bq HB.out))).mono ?_); rintro e w9 ⟨v292, rfl, ho0, hb⟩; have HO293 := Aside0.mk (Kd.R_lower ho0 (below_size (Rgn.bq HB.out))); replace BK290 := Aside0.mk (Rgn.bb BK290.out hb); replace HB := Aside0.mk (below_step (Rgn.bq HB.out) hb); (try clear hb); (try clear ho0); obtain ⟨Ao10, co10, eo10⟩ := Kd.R_slice HO293.out; subst eo10))
    repeat (go_quiet (fail); try go_wp2_with (first | (go_at_call 32; (with_reducible refine (strings_Split.calls (strOfNums l0) (⟨#[32]⟩ : ByteArray) t291 _ A8.out (GlobM.below GM.out (Rgn.bq HB.out))).mono ?_); rintro e w9 ⟨v292, rfl, ho0, hb⟩; have HO293 := Aside0.mk (Kd.R_lower ho0 (below_size (Rgn.bq HB.out))); replace BK290 := Aside0.mk (Rgn.bb BK290.out hb); replace HB := Aside0.mk (below_step (Rgn.bq HB.out) hb); (try clear hb); (try clear ho0); obtain ⟨Ao10, co10, eo10⟩ := Kd.R_slice HO293.out; subst eo10)))
    go_loopg [39] kj1 (fun kq v39 w' => ∃ (x39_2 : Int) (x291000_2 : Int) (x291001_2 : Int) (x291002_2 : ByteArray) (x291003_2 : ByteArray) (x291004_2 : Int) (x291005_2 : Int) (x291006_2 : Int) (x291007_2 : ByteArray), v39 = .int .i64 x39_2 ∧ Aside0 (impl_ParseLine.l0 kq t291 t291 (t291.length : Int) x39_2 = some (r1, r2, r3, r4, r5, r6, r7, r8, r9)) ∧ Aside0 (kq ≤ kj1) ∧ Aside0 (Kd.Q Kd.string 9 w' w.heap.size (fun _ => True) (.slice Ao10 t291.length co10) t291) ∧ Aside0 (Kd.R Kd.string 9 w' w.heap.size (fun _ => True) (.slice Ao10 t291.length co10) t291) ∧ Aside0 (w'.heap[gb290]? = some (.cells #[.int .i64 x291000_2, .int .i64 x291001_2, .string x291002_2, .string x291003_2, .int .i64 x291004_2, .int .i64 x291005_2, .int .i64 x291006_2, .string x291007_2, (.slice none 0 0)] 27 (0, 0))) ∧ Aside0 (Below w.heap.size w w'))
    case atStart => exact ⟨(0), (0), (0), ((⟨#[]⟩ : ByteArray)), ((⟨#[]⟩ : ByteArray)), (0), (0), (0), ((⟨#[]⟩ : ByteArray)), (by first | rfl | (simp; done) | (simp [*]; done)), H', ⟨Nat.le_refl _⟩, ⟨Kd.Q_of_R (Rgn.rq HO293.out)⟩, ⟨Rgn.rq HO293.out⟩, ⟨Rgn.kb BK290.out⟩, ⟨Rgn.bq HB.out⟩⟩
    case round =>
     clear H'
     try clear hcv4
     try clear c6
     obtain ⟨x39_2, x291000_2, x291001_2, x291002_2, x291003_2, x291004_2, x291005_2, x291006_2, x291007_2, rfl, HA, HK2, HO_4, HO_37, BK290, HB⟩ := hrel
     cases gk with
     | zero => exact absurd HA.out (by simp [impl_ParseLine.l0])
     | succ k2 =>
      have H := HA.out
      clear HA
      simp only [impl_ParseLine.l0] at H
      by_cases c11 : x39_2 < (t291.length : Int)
      ·
       rw [if_pos c11] at H
       have c11b0 : decide (x39_2 < (t291.length : Int)) = true := decide_eq_true c11
       clear c11
       by_cases c12 : 0 ≤ x39_2
       ·
        rw [if_pos c12] at H
        have c12b0 : decide (0 ≤ x39_2) = true := decide_eq_true c12
        clear c12
        by_cases c13 : x39_2 < (t291.length : Int)
        ·
         rw [if_pos c13] at H
         have c13b0 : decide (x39_2 < (t291.length : Int)) = true := decide_eq_true c13
         clear c13
         by_cases c14 : (rdOf ByteArray.empty t291 x39_2).toList = ([] : List UInt8)
         ·
          rw [if_pos c14] at H
          have c14b0 : ((rdOf ByteArray.empty t291 x39_2).toList == ([] : List UInt8)) = true := beq_iff_eq.mpr c14
          have c14b1 : ((rdOf ByteArray.empty t291 x39_2).toList != ([] : List UInt8)) = false := bne_eq_false_iff_eq.mpr c14
          clear c14
          simp only [Option.some.injEq, Prod.mk.injEq] at H
          obtain ⟨rfl, rfl, rfl, rfl, rfl, rfl, rfl, rfl, rfl⟩ := H
          have p294 : 0 ≤ (x39_2 : Int) := of_decide_eq_true (by first | (with_reducible assumption) | assumption)
          have q294 : x39_2 < (t291.length : Int) := of_decide_eq_true (by first | (with_reducible assumption) | assumption)
          obtain ⟨ad294, e294, hx294_0⟩ := Kd.at_string (Kd.R_reads' HO_37.out).2.2 x39_2 p294 q294
          cases e294
          replace p294 := eq_true p294
          replace q294 := eq_true q294
          obtain ⟨hcz15_0, hcz15_1, hcz15_2, hcz15_3, hcz15_4, hcz15_5, hcz15_6, hcz15_7, hcz15_8, hfz15_0, hfz15_1, hfz15_2, hfz15_3, hfz15_4, hfz15_5, hfz15_6, hfz15_7, hfz15_8⟩ := Rgn.cf9 BK290.out
          go_wp2
          repeat (go_quiet (fail); try go_wp2)
          refine bodyPost_ret (results_cell_row rfl _ _ gb290 27 _ (0, 0) _ rfl (by exact Rgn.put9 (Rgn.kf BK290.out)) Tryd.underlying27 rfl (by kernel_rfl)) rfl ?_
          exact ⟨_, by first | rfl | (simp [errW_none, errW_some] <;> rfl) | (simp [*, errW_none, errW_some] <;> rfl), by first | exact Kd.R_nil _ _ _ _ _ | exact Kd.N_nil _ _ _ _ _ | exact Kd.V_nil _ _ _ _ _ | exact Kd.Q_nil _ _ _ _ _ | exact Kd.S_nil _ _ _ _ _, Rgn.bq HB.out⟩
         ·
          rw [if_neg c14] at H
          have c14b0 : ((rdOf ByteArray.empty t291 x39_2).toList == ([] : List UInt8)) = false := beq_eq_false_iff_ne.mpr c14
          have c14b1 : ((rdOf ByteArray.empty t291 x39_2).toList != ([] : List UInt8)) = true := bne_iff_ne.mpr c14
          have H' := Aside0.mk H
          clear H
          have p294 : 0 ≤ (x39_2 : Int) := of_decide_eq_true (by first | (with_reducible assumption) | assumption)
          have q294 : x39_2 < (t291.length : Int) := of_decide_eq_true (by first | (with_reducible assumption) | assumption)
          obtain ⟨ad294, e294, hx294_0⟩ := Kd.at_string (Kd.R_reads' HO_37.out).2.2 x39_2 p294 q294
          cases e294
          replace p294 := eq_true p294
          replace q294 := eq_true q294
          go_wp2
          repeat (go_quiet (fail); try go_wp2)
          go_roundg k2
          case measure => have := HJ1.out; have := HK2.out; omega
          case rel => exact ⟨(wrap64 (x39_2 + 1)), (x291000_2), (x291001_2), (x291002_2), (x291003_2), (x291004_2), (x291005_2), (x291006_2), (x291007_2), (by first | rfl | (simp; done) | (simp [*]; done)), H', ⟨by have := HJ1.out; have := HK2.out; omega⟩, ⟨by (with_reducible repeat (first | apply Kd.Q_alloc | apply Kd.Q_drewN | apply Kd.Q_drew)); exact HO_4.out⟩, ⟨Rgn.rq HO_37.out⟩, ⟨Rgn.kb BK290.out⟩, ⟨Rgn.bq HB.out⟩⟩
        ·
         rw [if_neg c13] at H
         exact absurd H (by simp)
       ·
        rw [if_neg c12] at H
        exact absurd H (by simp)
      ·
       rw [if_neg c11] at H
       have c11b0 : decide (x39_2 < (t291.length : Int)) = false := decide_eq_false c11
       clear c11
       by_cases c16 : 0 < (t291.length : Int)
       ·
        rw [if_pos c16] at H
        have c16b0 : decide (0 < (t291.length : Int)) = true := decide_eq_true c16
        have c16b1 : decide (0 < t291.length) = true := decide_eq_true (by omega)
        clear c16
        by_cases c17 : 1 ≤ (t291.length : Int)
        ·
         rw [if_pos c17] at H
         have c17b0 := eq_true c17
         have c17b1 : decide (1 ≤ (t291.length : Int)) = true := decide_eq_true c17
         clear c17
         obtain ⟨y296, hy296⟩ : ∃ y_ : List ByteArray, y_ = (t291.drop (1 : Int).toNat) := ⟨_, rfl⟩
         replace H : (if (rdOf ByteArray.empty t291 0).toList = ([116, 114, 101, 101] : List UInt8) then (impl_ParseLine.j2 k2 y296 (rdOf ByteArray.empty t291 0) (rdOf ByteArray.empty t291 0) ((rdOf ByteArray.empty t291 0).toList == ([116, 114, 101, 101] : List UInt8))) else (if (rdOf ByteArray.empty t291 0).toList = ([99, 104, 101, 99, 107] : List UInt8) then (impl_ParseLine.j2 k2 y296 (rdOf ByteArray.empty t291 0) (rdOf ByteArray.empty t291 0) ((rdOf ByteArray.empty t291 0).toList == ([99, 104, 101, 99, 107] : List UInt8))) else (impl_ParseLine.j2 k2 y296 (rdOf ByteArray.empty t291 0) (rdOf ByteArray.empty t291 0) ((rdOf ByteArray.empty t291 0).toList == ([109, 111, 117, 110, 116] : List UInt8))))) = some (r1, r2, r3, r4, r5, r6, r7, r8, r9) := by first | (rw [hy296]; with_reducible exact H) | (have H2_ := (Option.bind_some _ _).symm.trans H; rw [hy296]; with_reducible exact H2_) | (have H2_ := (Option.bind_some _ _).symm.trans H; with_reducible exact H2_) | with_reducible exact H | (rw [hy296]; exact H) | exact H
         have Ny296 := Aside0.mk hy296
         clear hy296
         have HC18 := Aside0.mk H
         clear H
         have p295 : 0 ≤ (0 : Int) := (by omega)
         have q295 : 0 < (t291.length : Int) := of_decide_eq_true (by first | (with_reducible assumption) | assumption)
         obtain ⟨ad295, e295, hx295_0⟩ := Kd.at_string (Kd.Q_reads' HO_4.out).2.2 0 p295 q295
         cases e295
         have qi295 : (0 < t291.length) = True := eq_true (by omega)
         (try rw [show ((0 : Int)).toNat = 0 from rfl] at hx295_0)
         (try rw [Addr.add_zero'] at hx295_0)
         replace p295 := eq_true p295
         replace q295 := eq_true q295
         have q19 : (1 : Int) ≤ ((t291.length : Int) : Int) := of_decide_eq_true (by first | (with_reducible assumption) | assumption)
         obtain ⟨i019, hi019, _, hsz19, _⟩ := info_parts info9
         have hcut19 := cut_from (P := Tryd.prog) 46 9 .i64 Tryd.underlying46 hi019 1 hsz19 (some ad295) t291.length co10 1 (by omega) q19
         have hr19 := Kd.Q_drop (k := (1 : Int).toNat) HO_4.out (by omega)
         obtain ⟨A19, hA19⟩ : ∃ A1, A1 = (if co10 = (1 : Int).toNat then (some ad295) else ((some ad295) : Option Addr).map (·.add ((1 : Int).toNat * 1))) := ⟨_, rfl⟩
         obtain ⟨c19, hc19⟩ : ∃ c1, c1 = co10 - (1 : Int).toNat := ⟨_, rfl⟩
         have hy19 : y296.length = t291.length - (1 : Int).toNat := (by rw [Ny296.out, List.length_drop])
         rw [← Ny296.out] at hr19
         rw [← hy19, ← hA19, ← hc19] at hcut19
         replace hr19 : Kd.Q Kd.string 9 wr w.heap.size (fun _ => True) (.slice A19 y296.length c19) y296 := (by rw [hA19, hc19, hy19]; exact hr19)
         have HE19 : Aside0 ((Value.slice A19 y296.length c19).ownBlock = (.slice (some ad295) t291.length co10 : Value).ownBlock) := ⟨by rw [hA19]; split <;> (cases ((some ad295) : Option Addr) <;> rfl)⟩
         clear hy19 hi019 hsz19 HO_4 hA19 hc19
         have HO298 := Aside0.mk hr19
         clear hr19
         replace q19 := eq_true q19
         go_upto_if 53 with (fail)
         repeat (go_quiet (fail); go_upto_if 53 with (fail))
         go_cut [53] from 53 to 54 (fun v53 wc => ∃ (kq : Nat) (x53_17 : Bool), v53 = .bool x53_17 ∧ Aside0 (impl_ParseLine.j2 kq y296 (rdOf ByteArray.empty t291 0) (rdOf ByteArray.empty t291 0) x53_17 = some (r1, r2, r3, r4, r5, r6, r7, r8, r9)) ∧ Aside0 (kq ≤ k2) ∧ Aside0 (Kd.Q Kd.string 9 wc w.heap.size (fun _ => True) (.slice A19 y296.length c19) y296) ∧ Aside0 (wc.heap[gb290]? = some (.cells #[.int .i64 x291000_2, .int .i64 x291001_2, .string x291002_2, .string x291003_2, .int .i64 x291004_2, .int .i64 x291005_2, .int .i64 x291006_2, .string x291007_2, (.slice none 0 0)] 27 (0, 0))) ∧ Aside0 (Below w.heap.size w wc))
         case first =>
          have H := HC18.out
          clear HC18
          by_cases c20 : (rdOf ByteArray.empty t291 0).toList = ([116, 114, 101, 101] : List UInt8)
          ·
           rw [if_pos c20] at H
           have c20b0 : ((rdOf ByteArray.empty t291 0).toList == ([116, 114, 101, 101] : List UInt8)) = true := beq_iff_eq.mpr c20
           have c20b1 : ((rdOf ByteArray.empty t291 0).toList != ([116, 114, 101, 101] : List UInt8)) = false := bne_eq_false_iff_eq.mpr c20
           clear c20
           (first | rw [c20b0] | (simp only [i64_w, i32_w]; rw [c20b0]) | skip)
           have H' := Aside0.mk H
           clear H
           go_wp2
           repeat (go_quiet (fail); try go_wp2)
           go_meet
           case rel => exact ⟨_, (((rdOf ByteArray.empty t291 0).toList == ([116, 114, 101, 101] : List UInt8))), (by first | rfl | (simp; done) | (simp [*]; done)), H', ⟨by have := HJ1.out; have := HK2.out; first | omega | exact Nat.le_refl _⟩, ⟨by (with_reducible repeat (first | apply Kd.Q_alloc | apply Kd.Q_drewN | apply Kd.Q_drew)); exact HO298.out⟩, ⟨Rgn.kb BK290.out⟩, ⟨Rgn.bq HB.out⟩⟩
          ·
           rw [if_neg c20] at H
           have c20b0 : ((rdOf ByteArray.empty t291 0).toList == ([116, 114, 101, 101] : List UInt8)) = false := beq_eq_false_iff_ne.mpr c20
           have c20b1 : ((rdOf ByteArray.empty t291 0).toList != ([116, 114, 101, 101] : List UInt8)) = true := bne_iff_ne.mpr c20
           (first | rw [c20b0] | (simp only [i64_w, i32_w]; rw [c20b0]) | skip)
           by_cases c21 : (rdOf ByteArray.empty t291 0).toList = ([99, 104, 101, 99, 107] : List UInt8)
           ·
            rw [if_pos c21] at H
            have c21b0 : ((rdOf ByteArray.empty t291 0).toList == ([99, 104, 101, 99, 107] : List UInt8)) = true := beq_iff_eq.mpr c21
            have c21b1 : ((rdOf ByteArray.empty t291 0).toList != ([99, 104, 101, 99, 107] : List UInt8)) = false := bne_eq_false_iff_eq.mpr c21
            clear c21
            have H' := Aside0.mk H
            clear H
            go_wp2
            repeat (go_quiet (fail); try go_wp2)
            go_meet
            case rel => exact ⟨_, (((rdOf ByteArray.empty t291 0).toList == ([99, 104, 101, 99, 107] : List UInt8))), (by first | rfl | (simp; done) | (simp [*]; done)), H', ⟨by have := HJ1.out; have := HK2.out; first | omega | exact Nat.le_refl _⟩, ⟨by (with_reducible repeat (first | apply Kd.Q_alloc | apply Kd.Q_drewN | apply Kd.Q_drew)); exact HO298.out⟩, ⟨Rgn.kb BK290.out⟩, ⟨Rgn.bq HB.out⟩⟩
           ·
            rw [if_neg c21] at H
            have c21b0 : ((rdOf ByteArray.empty t291 0).toList == ([99, 104, 101, 99, 107] : List UInt8)) = false := beq_eq_false_iff_ne.mpr c21
            have c21b1 : ((rdOf ByteArray.empty t291 0).toList != ([99, 104, 101, 99, 107] : List UInt8)) = true := bne_iff_ne.mpr c21
            have H' := Aside0.mk H
            clear H
            go_wp2
            repeat (go_quiet (fail); try go_wp2)
            go_meet
            case rel => exact ⟨_, (((rdOf ByteArray.empty t291 0).toList == ([109, 111, 117, 110, 116] : List UInt8))), (by first | rfl | (simp; done) | (simp [*]; done)), H', ⟨by have := HJ1.out; have := HK2.out; first | omega | exact Nat.le_refl _⟩, ⟨by (with_reducible repeat (first | apply Kd.Q_alloc | apply Kd.Q_drewN | apply Kd.Q_drew)); exact HO298.out⟩, ⟨Rgn.kb BK290.out⟩, ⟨Rgn.bq HB.out⟩⟩
         case rest =>
          clear HC18
          try clear c1
          try clear hcv4
          try clear c6
          try clear c11
          try clear c11b0
          try clear c16
          try clear c16b0
          try clear c16b1
          try clear c17
          try clear c17b0
          try clear c17b1
          try clear c19
          try clear q19
          try clear hx295_0
          try clear p295
          try clear q19
          try clear q295
          obtain ⟨kq, x53_17, rfl, HA, HJ17, HO_4, BK290, HB⟩ := hcut
          cases kq with
          | zero => exact absurd HA.out (by simp [impl_ParseLine.j2])
          | succ kj17 =>
           have H := HA.out
           clear HA
           simp only [impl_ParseLine.j2] at H
           by_cases c22 : x53_17 = true
           ·
            subst c22
            replace H := Rgn.ip H
            by_cases c23 : (y296.length : Int) > 0
            ·
             rw [if_pos c23] at H
             have c23b0 : decide (0 < (y296.length : Int)) = true := decide_eq_true c23
             have c23b1 : decide (0 < y296.length) = true := decide_eq_true (by omega)
             clear c23
             simp only [Option.some.injEq, Prod.mk.injEq] at H
             obtain ⟨rfl, rfl, rfl, rfl, rfl, rfl, rfl, rfl, rfl⟩ := H
             obtain ⟨hcz24_0, hcz24_1, hcz24_2, hcz24_3, hcz24_4, hcz24_5, hcz24_6, hcz24_7, hcz24_8, hfz24_0, hfz24_1, hfz24_2, hfz24_3, hfz24_4, hfz24_5, hfz24_6, hfz24_7, hfz24_8⟩ := Rgn.cf9 BK290.out
             go_wp2
             repeat (go_quiet (fail); try go_wp2)
             refine bodyPost_ret (results_cell_row rfl _ _ gb290 27 _ (0, 0) _ rfl (by exact Rgn.put9 (Rgn.kf BK290.out)) Tryd.underlying27 rfl (by kernel_rfl)) rfl ?_
             exact ⟨_, by first | rfl | (simp [errW_none, errW_some] <;> rfl) | (simp [*, errW_none, errW_some] <;> rfl), by first | exact Kd.R_nil _ _ _ _ _ | exact Kd.N_nil _ _ _ _ _ | exact Kd.V_nil _ _ _ _ _ | exact Kd.Q_nil _ _ _ _ _ | exact Kd.S_nil _ _ _ _ _, Rgn.bq HB.out⟩
            ·
             rw [if_neg c23] at H
             have c23b0 : decide (0 < (y296.length : Int)) = false := decide_eq_false c23
             have c23b1 : decide (0 < y296.length) = false := decide_eq_false (by omega)
             clear c23
             replace H := Option.bind_eq_some_iff.mp H
             obtain ⟨t299, A250, H⟩ := H
             replace H : (some (t299, 0, (⟨#[]⟩ : ByteArray), (⟨#[]⟩ : ByteArray), 0, 0, 0, (⟨#[]⟩ : ByteArray), ([] : List Int))) = some (r1, r2, r3, r4, r5, r6, r7, r8, r9) := H
             have A25 := Aside0.mk A250
             clear A250
             simp only [Option.some.injEq, Prod.mk.injEq] at H
             obtain ⟨rfl, rfl, rfl, rfl, rfl, rfl, rfl, rfl, rfl⟩ := H
             go_wp2_with (first | ((with_reducible refine gate_dst (N := 61) rfl ?_); refine Shp.make_event 9 Shp.hv ?hg (N := 61) ?hd ?hr ?_; (case hd => rfl); (case hg => rfl); (case hr => first | (go_simp; done) | (go_simp; rfl)); intro gb61 hg61 w61 ho61 hb61; have HM61 := Aside0.mk ho61; have HG61 := Aside0.mk (Rgn.ge hg61 HB.out); have HNE61 := Aside0.mk (show gb290 ≠ gb61 from by have h_ := blk_lt BK290.out; have h2_ := (Rgn.ge hg61 (Below.refl _ _) : _ ≤ gb61); omega); replace BK290 := Aside0.mk (Rgn.bb BK290.out hb61); replace HB := Aside0.mk (below_step (Rgn.bq HB.out) hb61); clear hg61 ho61 hb61) | ((with_reducible refine Shp.gate_insert (t := 70) rfl ?_); (refine Shp.insert_event rfl _ _ _ 70 rfl 9 2 Shp.key9 Tryd.underlying70 Shp.hv gb61 _ _ rfl HM61.out (by unfold maxLen; decide) _ _ _ rfl rfl (Go.WideMaps.keyOf_string_mk Tryd.underlying9 (by unfold maxLen; decide)) _ [] rfl rfl ?_); intro w62 ho62 hg62; replace HM61 := Aside0.mk ho62; replace BK290 := Aside0.mk (blk_grown BK290.out hg62 (by have h_ := HNE61.out; exact fun e_ => h_ (Option.some.inj e_))); replace HB := Aside0.mk (Box.below_grown HB.out hg62 HG61.out); clear ho62 hg62) | ((with_reducible refine gate_dst (N := 64) rfl ?_); refine Shp.look_three rfl _ _ rfl rfl rfl (show World.ownsMap _ Tryd.prog 9 Shp.hv gb61 _ Shp.lit3 from HM61.out) A25.out ?_; obtain ⟨hcz26_0, hcz26_1, hcz26_2, hcz26_3, hcz26_4, hcz26_5, hcz26_6, hcz26_7, hcz26_8⟩ := Shp.c9 BK290.out; obtain ⟨hfz26_0, hfz26_1, hfz26_2, hfz26_3, hfz26_4, hfz26_5, hfz26_6, hfz26_7, hfz26_8⟩ := Shp.f9 BK290.out))
             repeat (go_quiet (fail); try go_wp2_with (first | ((with_reducible refine gate_dst (N := 61) rfl ?_); refine Shp.make_event 9 Shp.hv ?hg (N := 61) ?hd ?hr ?_; (case hd => rfl); (case hg => rfl); (case hr => first | (go_simp; done) | (go_simp; rfl)); intro gb61 hg61 w61 ho61 hb61; have HM61 := Aside0.mk ho61; have HG61 := Aside0.mk (Rgn.ge hg61 HB.out); have HNE61 := Aside0.mk (show gb290 ≠ gb61 from by have h_ := blk_lt BK290.out; have h2_ := (Rgn.ge hg61 (Below.refl _ _) : _ ≤ gb61); omega); replace BK290 := Aside0.mk (Rgn.bb BK290.out hb61); replace HB := Aside0.mk (below_step (Rgn.bq HB.out) hb61); clear hg61 ho61 hb61) | ((with_reducible refine Shp.gate_insert (t := 70) rfl ?_); (refine Shp.insert_event rfl _ _ _ 70 rfl 9 2 Shp.key9 Tryd.underlying70 Shp.hv gb61 _ _ rfl HM61.out (by unfold maxLen; decide) _ _ _ rfl rfl (Go.WideMaps.keyOf_string_mk Tryd.underlying9 (by unfold maxLen; decide)) _ [] rfl rfl ?_); intro w62 ho62 hg62; replace HM61 := Aside0.mk ho62; replace BK290 := Aside0.mk (blk_grown BK290.out hg62 (by have h_ := HNE61.out; exact fun e_ => h_ (Option.some.inj e_))); replace HB := Aside0.mk (Box.below_grown HB.out hg62 HG61.out); clear ho62 hg62) | ((with_reducible refine gate_dst (N := 64) rfl ?_); refine Shp.look_three rfl _ _ rfl rfl rfl (show World.ownsMap _ Tryd.prog 9 Shp.hv gb61 _ Shp.lit3 from HM61.out) A25.out ?_; obtain ⟨hcz26_0, hcz26_1, hcz26_2, hcz26_3, hcz26_4, hcz26_5, hcz26_6, hcz26_7, hcz26_8⟩ := Shp.c9 BK290.out; obtain ⟨hfz26_0, hfz26_1, hfz26_2, hfz26_3, hfz26_4, hfz26_5, hfz26_6, hfz26_7, hfz26_8⟩ := Shp.f9 BK290.out)))
             refine bodyPost_ret (results_cell_row rfl _ _ gb290 27 _ (0, 0) _ rfl (by exact Rgn.put9 (Rgn.kf BK290.out)) Tryd.underlying27 rfl (by kernel_rfl)) rfl ?_
             exact ⟨_, by first | rfl | (simp [errW_none, errW_some] <;> rfl) | (simp [*, errW_none, errW_some] <;> rfl), by first | exact Kd.R_nil _ _ _ _ _ | exact Kd.N_nil _ _ _ _ _ | exact Kd.V_nil _ _ _ _ _ | exact Kd.Q_nil _ _ _ _ _ | exact Kd.S_nil _ _ _ _ _, Rgn.bq HB.out⟩
           ·
            replace c22 := Bool.eq_false_iff.mpr c22
            subst c22
            replace H := Rgn.im H
            have HC27 := Aside0.mk H
            clear H
            go_upto_if 66 with (fail)
            repeat (go_quiet (fail); go_upto_if 66 with (fail))
            go_cut [66] from 66 to 67 (fun v66 wc => ∃ (kq : Nat) (x66_26 : Bool), v66 = .bool x66_26 ∧ Aside0 (impl_ParseLine.j3 kq y296 (rdOf ByteArray.empty t291 0) x66_26 = some (r1, r2, r3, r4, r5, r6, r7, r8, r9)) ∧ Aside0 (kq ≤ kj17) ∧ Aside0 (Kd.Q Kd.string 9 wc w.heap.size (fun _ => True) (.slice A19 y296.length c19) y296) ∧ Aside0 (wc.heap[gb290]? = some (.cells #[.int .i64 x291000_2, .int .i64 x291001_2, .string x291002_2, .string x291003_2, .int .i64 x291004_2, .int .i64 x291005_2, .int .i64 x291006_2, .string x291007_2, (.slice none 0 0)] 27 (0, 0))) ∧ Aside0 (Below w.heap.size w wc))
            case first =>
             have H := HC27.out
             clear HC27
             by_cases c28 : (rdOf ByteArray.empty t291 0).toList = ([97, 114, 109] : List UInt8)
             ·
              rw [if_pos c28] at H
              have c28b0 : ((rdOf ByteArray.empty t291 0).toList == ([97, 114, 109] : List UInt8)) = true := beq_iff_eq.mpr c28
              have c28b1 : ((rdOf ByteArray.empty t291 0).toList != ([97, 114, 109] : List UInt8)) = false := bne_eq_false_iff_eq.mpr c28
              clear c28
              (first | rw [c28b0] | (simp only [i64_w, i32_w]; rw [c28b0]) | skip)
              have H' := Aside0.mk H
              clear H
              go_wp2
              repeat (go_quiet (fail); try go_wp2)
              go_meet
              case rel => exact ⟨_, (((rdOf ByteArray.empty t291 0).toList == ([97, 114, 109] : List UInt8))), (by first | rfl | (simp; done) | (simp [*]; done)), H', ⟨by have := HJ1.out; have := HK2.out; have := HJ17.out; first | omega | exact Nat.le_refl _⟩, ⟨by (with_reducible repeat (first | apply Kd.Q_alloc | apply Kd.Q_drewN | apply Kd.Q_drew)); exact HO_4.out⟩, ⟨Rgn.kb BK290.out⟩, ⟨Rgn.bq HB.out⟩⟩
             ·
              rw [if_neg c28] at H
              have c28b0 : ((rdOf ByteArray.empty t291 0).toList == ([97, 114, 109] : List UInt8)) = false := beq_eq_false_iff_ne.mpr c28
              have c28b1 : ((rdOf ByteArray.empty t291 0).toList != ([97, 114, 109] : List UInt8)) = true := bne_iff_ne.mpr c28
              (first | rw [c28b0] | (simp only [i64_w, i32_w]; rw [c28b0]) | skip)
              have H' := Aside0.mk H
              clear H
              go_wp2
              repeat (go_quiet (fail); try go_wp2)
              go_meet
              case rel => exact ⟨_, (((rdOf ByteArray.empty t291 0).toList == ([99, 114, 97, 115, 104] : List UInt8))), (by first | rfl | (simp; done) | (simp [*]; done)), H', ⟨by have := HJ1.out; have := HK2.out; have := HJ17.out; first | omega | exact Nat.le_refl _⟩, ⟨by (with_reducible repeat (first | apply Kd.Q_alloc | apply Kd.Q_drewN | apply Kd.Q_drew)); exact HO_4.out⟩, ⟨Rgn.kb BK290.out⟩, ⟨Rgn.bq HB.out⟩⟩
            case rest =>
             clear HC27
             try clear c1
             try clear hcv4
             try clear c6
             try clear c11
             try clear c11b0
             try clear c16
             try clear c16b0
             try clear c16b1
             try clear c17
             try clear c17b0
             try clear c17b1
             try clear c19
             try clear q19
             try clear c22
             try clear hx295_0
             try clear p295
             try clear q19
             try clear q295
             obtain ⟨kq, x66_26, rfl, HA, HJ26, HO_4, BK290, HB⟩ := hcut
             cases kq with
             | zero => exact absurd HA.out (by simp [impl_ParseLine.j3])
             | succ kj26 =>
              have H := HA.out
              clear HA
              simp only [impl_ParseLine.j3] at H
              by_cases c29 : x66_26 = true
              ·
               subst c29
               replace H := Rgn.ip H
               have H' := Aside0.mk H
               clear H
               go_wp2_with (first | ((with_reducible refine gate_dst (N := 8) rfl ?_); (try (refine gate_guard (by rfl) ?_; dsimp only)); refine Rgn.bx 8 #[.int .i64 0, .int .i64 0, .string (⟨#[]⟩ : ByteArray), .string (⟨#[]⟩ : ByteArray), .int .i64 0, .int .i64 0, .int .i64 0, .string (⟨#[]⟩ : ByteArray), .slice none 0 0] 27 ?_; intro gb300 hg w30 hbox hb; replace HO_4 := Aside0.mk (Kd.Q_below (by (with_reducible repeat (first | apply Kd.Q_alloc | apply Kd.Q_drewN | apply Kd.Q_drew)); exact HO_4.out) hb); have BK300 := Aside0.mk (hbox); have GW300 := Aside0.mk (Rgn.ge hg HB.out); have GE300 := Aside0.mk (Rgn.ge hg HB.out); replace HB := Aside0.mk (below_step (Rgn.bq HB.out) hb); have NB290_300 := Aside0.mk (Rgn.nl hg BK290.out); have NB300_290 := Aside0.mk (Rgn.ng hg BK290.out); replace BK290 := Aside0.mk (Rgn.bb BK290.out hb); clear hb hbox hg))
               repeat (go_quiet (fail); try go_wp2_with (first | ((with_reducible refine gate_dst (N := 8) rfl ?_); (try (refine gate_guard (by rfl) ?_; dsimp only)); refine Rgn.bx 8 #[.int .i64 0, .int .i64 0, .string (⟨#[]⟩ : ByteArray), .string (⟨#[]⟩ : ByteArray), .int .i64 0, .int .i64 0, .int .i64 0, .string (⟨#[]⟩ : ByteArray), .slice none 0 0] 27 ?_; intro gb300 hg w30 hbox hb; replace HO_4 := Aside0.mk (Kd.Q_below (by (with_reducible repeat (first | apply Kd.Q_alloc | apply Kd.Q_drewN | apply Kd.Q_drew)); exact HO_4.out) hb); have BK300 := Aside0.mk (hbox); have GW300 := Aside0.mk (Rgn.ge hg HB.out); have GE300 := Aside0.mk (Rgn.ge hg HB.out); replace HB := Aside0.mk (below_step (Rgn.bq HB.out) hb); have NB290_300 := Aside0.mk (Rgn.nl hg BK290.out); have NB300_290 := Aside0.mk (Rgn.ng hg BK290.out); replace BK290 := Aside0.mk (Rgn.bb BK290.out hb); clear hb hbox hg)))
               go_loopg [71] kj26 (fun kq v71 w' => ∃ (x71_5 : Int) (x291000_5 : Int) (x291001_5 : Int) (x291002_5 : ByteArray) (x291003_5 : ByteArray) (x291004_5 : Int) (x291005_5 : Int) (x291006_5 : Int) (x291007_5 : ByteArray) (x301008_5 : List Int) (u301008 : Value), v71 = .int .i64 x71_5 ∧ Aside0 (impl_ParseLine.l1 kq (rdOf ByteArray.empty t291 0) y296 (y296.length : Int) x71_5 0 0 (⟨#[]⟩ : ByteArray) (⟨#[]⟩ : ByteArray) 0 0 0 (⟨#[]⟩ : ByteArray) x301008_5 = some (r1, r2, r3, r4, r5, r6, r7, r8, r9)) ∧ Aside0 (kq ≤ kj26) ∧ Aside0 (Kd.Q Kd.string 9 w' w.heap.size (fun _ => True) (.slice A19 y296.length c19) y296) ∧ Aside0 (Kd.R (Kd.int .i64) 2 w' w.heap.size (fun _ => True) u301008 x301008_5) ∧ Aside0 (w'.heap[gb290]? = some (.cells #[.int .i64 x291000_5, .int .i64 x291001_5, .string x291002_5, .string x291003_5, .int .i64 x291004_5, .int .i64 x291005_5, .int .i64 x291006_5, .string x291007_5, (.slice none 0 0)] 27 (0, 0))) ∧ Aside0 (w'.heap[gb300]? = some (.cells #[.int .i64 0, .int .i64 0, .string (⟨#[]⟩ : ByteArray), .string (⟨#[]⟩ : ByteArray), .int .i64 0, .int .i64 0, .int .i64 0, .string (⟨#[]⟩ : ByteArray), u301008] 27 (0, 0))) ∧ Aside0 (Below w.heap.size w w'))
               case atStart => exact ⟨(0), (x291000_2), (x291001_2), (x291002_2), (x291003_2), (x291004_2), (x291005_2), (x291006_2), (x291007_2), (([] : List Int)), (.slice none 0 0), (by first | rfl | (simp; done) | (simp [*]; done)), H', ⟨Nat.le_refl _⟩, ⟨by (with_reducible repeat (first | apply Kd.Q_alloc | apply Kd.Q_drewN | apply Kd.Q_drew)); exact HO_4.out⟩, ⟨by first | exact Kd.R_nil _ _ _ _ _ | exact Kd.N_nil _ _ _ _ _ | exact Kd.V_nil _ _ _ _ _ | exact Kd.Q_nil _ _ _ _ _ | exact Kd.S_nil _ _ _ _ _⟩, ⟨Rgn.kb BK290.out⟩, ⟨Rgn.kb BK300.out⟩, ⟨Rgn.bq HB.out⟩⟩
               case round =>
                clear H'
                try clear c1
                try clear hcv4
                try clear c6
                try clear c11
                try clear c11b0
                try clear c16
                try clear c16b0
                try clear c16b1
                try clear c17
                try clear c17b0
                try clear c17b1
                try clear c19
                try clear q19
                try clear c22
                try clear c29
                try clear hx295_0
                try clear p295
                try clear q19
                try clear q295
                obtain ⟨x71_5, x291000_5, x291001_5, x291002_5, x291003_5, x291004_5, x291005_5, x291006_5, x291007_5, x301008_5, u301008, rfl, HA, HK5, HO_69, HO_301008, BK290, BK300, HB⟩ := hrel
                cases gk with
                | zero => exact absurd HA.out (by simp [impl_ParseLine.l1])
                | succ k5 =>
                 have H := HA.out
                 clear HA
                 simp only [impl_ParseLine.l1] at H
                 by_cases c31 : x71_5 < (y296.length : Int)
                 ·
                  rw [if_pos c31] at H
                  have c31b0 : decide (x71_5 < (y296.length : Int)) = true := decide_eq_true c31
                  clear c31
                  by_cases c32 : 0 ≤ x71_5
                  ·
                   rw [if_pos c32] at H
                   have c32b0 : decide (0 ≤ x71_5) = true := decide_eq_true c32
                   clear c32
                   by_cases c33 : x71_5 < (y296.length : Int)
                   ·
                    rw [if_pos c33] at H
                    have c33b0 : decide (x71_5 < (y296.length : Int)) = true := decide_eq_true c33
                    clear c33
                    replace H := Option.bind_eq_some_iff.mp H
                    obtain ⟨⟨t302, t303⟩, A340, H⟩ := H
                    replace H : (if t303 = true then (if x301008_5.length < 17592186044416 then (impl_ParseLine.l1 k5 (rdOf ByteArray.empty t291 0) y296 (y296.length : Int) (wrap64 (x71_5 + 1)) 0 0 (⟨#[]⟩ : ByteArray) (⟨#[]⟩ : ByteArray) 0 0 0 (⟨#[]⟩ : ByteArray) (x301008_5 ++ [t302])) else (none)) else (some (0, 0, (⟨#[]⟩ : ByteArray), (⟨#[]⟩ : ByteArray), 0, 0, 0, (⟨#[]⟩ : ByteArray), ([] : List Int)))) = some (r1, r2, r3, r4, r5, r6, r7, r8, r9) := H
                    have A34 := Aside0.mk A340
                    clear A340
                    by_cases c35 : t303 = true
                    ·
                     subst c35
                     replace H := Rgn.ip H
                     by_cases c36 : x301008_5.length < 17592186044416
                     ·
                      rw [if_pos c36] at H
                      have LMc36 := Aside0.mk c36
                      clear c36
                      obtain ⟨y304, hy304⟩ : ∃ y_ : List Int, y_ = (x301008_5 ++ [t302]) := ⟨_, rfl⟩
                      replace H : (impl_ParseLine.l1 k5 (rdOf ByteArray.empty t291 0) y296 (y296.length : Int) (wrap64 (x71_5 + 1)) 0 0 (⟨#[]⟩ : ByteArray) (⟨#[]⟩ : ByteArray) 0 0 0 (⟨#[]⟩ : ByteArray) y304) = some (r1, r2, r3, r4, r5, r6, r7, r8, r9) := by first | (rw [hy304]; with_reducible exact H) | (have H2_ := (Option.bind_some _ _).symm.trans H; rw [hy304]; with_reducible exact H2_) | (have H2_ := (Option.bind_some _ _).symm.trans H; with_reducible exact H2_) | with_reducible exact H | (rw [hy304]; exact H) | exact H
                      have Ny304 := Aside0.mk hy304
                      clear hy304
                      have H' := Aside0.mk H
                      clear H
                      have p301 : 0 ≤ (x71_5 : Int) := of_decide_eq_true (by first | (with_reducible assumption) | assumption)
                      have q301 : x71_5 < (y296.length : Int) := of_decide_eq_true (by first | (with_reducible assumption) | assumption)
                      obtain ⟨ad301, e301, hx301_0⟩ := Kd.at_string (Kd.Q_reads' HO_69.out).2.2 x71_5 p301 q301
                      cases e301
                      replace p301 := eq_true p301
                      replace q301 := eq_true q301
                      go_wp2_with (first | (go_at_call 33; (with_reducible refine (impl_number.calls k5 (rdOf ByteArray.empty y296 x71_5) t302 true _ A34.out).mono ?_); rintro e w37 ⟨rfl, hb⟩; replace HO_69 := Aside0.mk (Kd.Q_below (by (with_reducible repeat (first | apply Kd.Q_alloc | apply Kd.Q_drewN | apply Kd.Q_drew)); exact HO_69.out) hb); replace HO_301008 := Aside0.mk (Kd.R_below (Rgn.rq HO_301008.out) hb); replace BK290 := Aside0.mk (Rgn.bb BK290.out hb); replace BK300 := Aside0.mk (Rgn.bb BK300.out hb); replace HB := Aside0.mk (below_step (Rgn.bq HB.out) hb); (try clear hb); have hnb38 := NB300_290.out; have hnc38 := NB290_300.out; obtain ⟨hcz39_0, hcz39_1, hcz39_2, hcz39_3, hcz39_4, hcz39_5, hcz39_6, hcz39_7, hcz39_8, hfz39_0, hfz39_1, hfz39_2, hfz39_3, hfz39_4, hfz39_5, hfz39_6, hfz39_7, hfz39_8⟩ := Rgn.cf9 BK300.out) | ((with_reducible refine gate_builtin (b := .append) (xs := #[.tmp 84, .tmp 86]) rfl ?_); (try (refine gate_guard (by rfl) ?_; dsimp only)); at_builtin; refine Kd.R_append (Kd.int .i64) (w0 := w) w.heap.size rfl (.tmp 84) (.tmp 86) 25 2 (.int .i64 0) 8 rfl Tryd.underlying25 info2 rfl (by decide) (by omega) u301008 x301008_5 t302 [.int .i64 t302] (fun _ => True) (fun _ => False) rfl rfl ?aP (fun _ hk => hk.elim) ?aF ?aO ?aB ?aS ?aL ?_; (case aP => exact rfl); (case aB => exact (Rgn.bq HB.out)); (case aF => exact (fun _ _ => trivial)); (case aO => exact (Rgn.rq HO_301008.out)); (case aS => exact (below_size (Rgn.bq HB.out))); (case aL => have := LMc36.out; omega); intro v305 w40 ho hb hg hat; rw [← Ny304.out] at ho; replace HO_69 := Aside0.mk (Kd.Q_over' (by (with_reducible repeat (first | apply Kd.Q_alloc | apply Kd.Q_drewN | apply Kd.Q_drew)); exact HO_69.out) (Kd.R_typed (Rgn.rq HO_301008.out)) (by decide) hg); replace BK290 := Aside0.mk (Rgn.bg BK290.out hg (Kd.R_ne HO_301008.out BK290.out (by decide))); replace BK300 := Aside0.mk (Rgn.bg BK300.out hg (Kd.R_ne HO_301008.out BK300.out (by decide))); replace HB := Aside0.mk (hb); have HO306 := Aside0.mk (ho); clear HO_301008; clear ho hb hg hat; obtain ⟨Ao41, co41, eo41⟩ := Kd.R_slice HO306.out; subst eo41; obtain ⟨hcz42_0, hcz42_1, hcz42_2, hcz42_3, hcz42_4, hcz42_5, hcz42_6, hcz42_7, hcz42_8, hfz42_0, hfz42_1, hfz42_2, hfz42_3, hfz42_4, hfz42_5, hfz42_6, hfz42_7, hfz42_8⟩ := Rgn.cf9 BK300.out))
                      repeat (go_quiet (fail); try go_wp2_with (first | (go_at_call 33; (with_reducible refine (impl_number.calls k5 (rdOf ByteArray.empty y296 x71_5) t302 true _ A34.out).mono ?_); rintro e w37 ⟨rfl, hb⟩; replace HO_69 := Aside0.mk (Kd.Q_below (by (with_reducible repeat (first | apply Kd.Q_alloc | apply Kd.Q_drewN | apply Kd.Q_drew)); exact HO_69.out) hb); replace HO_301008 := Aside0.mk (Kd.R_below (Rgn.rq HO_301008.out) hb); replace BK290 := Aside0.mk (Rgn.bb BK290.out hb); replace BK300 := Aside0.mk (Rgn.bb BK300.out hb); replace HB := Aside0.mk (below_step (Rgn.bq HB.out) hb); (try clear hb); have hnb38 := NB300_290.out; have hnc38 := NB290_300.out; obtain ⟨hcz39_0, hcz39_1, hcz39_2, hcz39_3, hcz39_4, hcz39_5, hcz39_6, hcz39_7, hcz39_8, hfz39_0, hfz39_1, hfz39_2, hfz39_3, hfz39_4, hfz39_5, hfz39_6, hfz39_7, hfz39_8⟩ := Rgn.cf9 BK300.out) | ((with_reducible refine gate_builtin (b := .append) (xs := #[.tmp 84, .tmp 86]) rfl ?_); (try (refine gate_guard (by rfl) ?_; dsimp only)); at_builtin; refine Kd.R_append (Kd.int .i64) (w0 := w) w.heap.size rfl (.tmp 84) (.tmp 86) 25 2 (.int .i64 0) 8 rfl Tryd.underlying25 info2 rfl (by decide) (by omega) u301008 x301008_5 t302 [.int .i64 t302] (fun _ => True) (fun _ => False) rfl rfl ?aP (fun _ hk => hk.elim) ?aF ?aO ?aB ?aS ?aL ?_; (case aP => exact rfl); (case aB => exact (Rgn.bq HB.out)); (case aF => exact (fun _ _ => trivial)); (case aO => exact (Rgn.rq HO_301008.out)); (case aS => exact (below_size (Rgn.bq HB.out))); (case aL => have := LMc36.out; omega); intro v305 w40 ho hb hg hat; rw [← Ny304.out] at ho; replace HO_69 := Aside0.mk (Kd.Q_over' (by (with_reducible repeat (first | apply Kd.Q_alloc | apply Kd.Q_drewN | apply Kd.Q_drew)); exact HO_69.out) (Kd.R_typed (Rgn.rq HO_301008.out)) (by decide) hg); replace BK290 := Aside0.mk (Rgn.bg BK290.out hg (Kd.R_ne HO_301008.out BK290.out (by decide))); replace BK300 := Aside0.mk (Rgn.bg BK300.out hg (Kd.R_ne HO_301008.out BK300.out (by decide))); replace HB := Aside0.mk (hb); have HO306 := Aside0.mk (ho); clear HO_301008; clear ho hb hg hat; obtain ⟨Ao41, co41, eo41⟩ := Kd.R_slice HO306.out; subst eo41; obtain ⟨hcz42_0, hcz42_1, hcz42_2, hcz42_3, hcz42_4, hcz42_5, hcz42_6, hcz42_7, hcz42_8, hfz42_0, hfz42_1, hfz42_2, hfz42_3, hfz42_4, hfz42_5, hfz42_6, hfz42_7, hfz42_8⟩ := Rgn.cf9 BK300.out)))
                      go_roundg k5
                      case measure => have := HJ1.out; have := HK2.out; have := HJ17.out; have := HJ26.out; have := HK5.out; omega
                      case rel => exact ⟨(wrap64 (x71_5 + 1)), (x291000_5), (x291001_5), (x291002_5), (x291003_5), (x291004_5), (x291005_5), (x291006_5), (x291007_5), (y304), (.slice Ao41 y304.length co41), (by first | rfl | (simp; done) | (simp [*]; done)), H', ⟨by have := HJ1.out; have := HK2.out; have := HJ17.out; have := HJ26.out; have := HK5.out; omega⟩, ⟨by (with_reducible repeat (first | apply Kd.Q_alloc | apply Kd.Q_drewN | apply Kd.Q_drew)); exact Kd.Q_mono (Kd.Q_far (p := ⟨gb300, 8, none⟩) (Kd.Q_types HO_69.out BK300.out (by decide)) (fun _ hk => hk.2) (.slice Ao41 y304.length co41)) (fun _ hk => trivial)⟩, ⟨by (with_reducible repeat (first | apply Kd.R_alloc | apply Kd.R_drewN | apply Kd.R_drew)); exact Kd.R_mono (Kd.R_far (p := ⟨gb300, 8, none⟩) (Kd.R_types HO306.out BK300.out (by decide)) (fun _ hk => hk.2) (.slice Ao41 y304.length co41)) (fun _ hk => trivial)⟩, ⟨Rgn.kf BK290.out⟩, ⟨by (with_reducible repeat (first | refine blk_drewN ?_ _ | refine blk_drew ?_ | refine blk_alloc ?_ _)); refine blk_put (cs := #[.int .i64 0, .int .i64 0, .string (⟨#[]⟩ : ByteArray), .string (⟨#[]⟩ : ByteArray), .int .i64 0, .int .i64 0, .int .i64 0, .string (⟨#[]⟩ : ByteArray), u301008]) ?_ 8 _ rfl; (with_reducible repeat (first | refine blk_drewN ?_ _ | refine blk_drew ?_ | refine blk_alloc ?_ _)); exact BK300.out⟩, ⟨Rgn.bq HB.out⟩⟩
                     ·
                      rw [if_neg c36] at H
                      exact absurd H (by simp)
                    ·
                     replace c35 := Bool.eq_false_iff.mpr c35
                     subst c35
                     replace H := Rgn.im H
                     simp only [Option.some.injEq, Prod.mk.injEq] at H
                     obtain ⟨rfl, rfl, rfl, rfl, rfl, rfl, rfl, rfl, rfl⟩ := H
                     have p301 : 0 ≤ (x71_5 : Int) := of_decide_eq_true (by first | (with_reducible assumption) | assumption)
                     have q301 : x71_5 < (y296.length : Int) := of_decide_eq_true (by first | (with_reducible assumption) | assumption)
                     obtain ⟨ad301, e301, hx301_0⟩ := Kd.at_string (Kd.Q_reads' HO_69.out).2.2 x71_5 p301 q301
                     cases e301
                     replace p301 := eq_true p301
                     replace q301 := eq_true q301
                     go_wp2_with (first | (go_at_call 33; (with_reducible refine (impl_number.calls k5 (rdOf ByteArray.empty y296 x71_5) t302 false _ A34.out).mono ?_); rintro e w43 ⟨rfl, hb⟩; replace HO_69 := Aside0.mk (Kd.Q_below (by (with_reducible repeat (first | apply Kd.Q_alloc | apply Kd.Q_drewN | apply Kd.Q_drew)); exact HO_69.out) hb); replace HO_301008 := Aside0.mk (Kd.R_below (Rgn.rq HO_301008.out) hb); replace BK290 := Aside0.mk (Rgn.bb BK290.out hb); replace BK300 := Aside0.mk (Rgn.bb BK300.out hb); replace HB := Aside0.mk (below_step (Rgn.bq HB.out) hb); (try clear hb); have hnb44 := NB290_300.out; have hnc44 := NB300_290.out; obtain ⟨hcz45_0, hcz45_1, hcz45_2, hcz45_3, hcz45_4, hcz45_5, hcz45_6, hcz45_7, hcz45_8, hfz45_0, hfz45_1, hfz45_2, hfz45_3, hfz45_4, hfz45_5, hfz45_6, hfz45_7, hfz45_8⟩ := Rgn.cf9 BK290.out))
                     repeat (go_quiet (fail); try go_wp2_with (first | (go_at_call 33; (with_reducible refine (impl_number.calls k5 (rdOf ByteArray.empty y296 x71_5) t302 false _ A34.out).mono ?_); rintro e w43 ⟨rfl, hb⟩; replace HO_69 := Aside0.mk (Kd.Q_below (by (with_reducible repeat (first | apply Kd.Q_alloc | apply Kd.Q_drewN | apply Kd.Q_drew)); exact HO_69.out) hb); replace HO_301008 := Aside0.mk (Kd.R_below (Rgn.rq HO_301008.out) hb); replace BK290 := Aside0.mk (Rgn.bb BK290.out hb); replace BK300 := Aside0.mk (Rgn.bb BK300.out hb); replace HB := Aside0.mk (below_step (Rgn.bq HB.out) hb); (try clear hb); have hnb44 := NB290_300.out; have hnc44 := NB300_290.out; obtain ⟨hcz45_0, hcz45_1, hcz45_2, hcz45_3, hcz45_4, hcz45_5, hcz45_6, hcz45_7, hcz45_8, hfz45_0, hfz45_1, hfz45_2, hfz45_3, hfz45_4, hfz45_5, hfz45_6, hfz45_7, hfz45_8⟩ := Rgn.cf9 BK290.out)))
                     refine bodyPost_ret (results_cell_row rfl _ _ gb290 27 _ (0, 0) _ rfl (by exact Rgn.put9 (Rgn.kf BK290.out)) Tryd.underlying27 rfl (by kernel_rfl)) rfl ?_
                     exact ⟨_, by first | rfl | (simp [errW_none, errW_some] <;> rfl) | (simp [*, errW_none, errW_some] <;> rfl), by first | exact Kd.R_nil _ _ _ _ _ | exact Kd.N_nil _ _ _ _ _ | exact Kd.V_nil _ _ _ _ _ | exact Kd.Q_nil _ _ _ _ _ | exact Kd.S_nil _ _ _ _ _, Rgn.bq HB.out⟩
                   ·
                    rw [if_neg c33] at H
                    exact absurd H (by simp)
                  ·
                   rw [if_neg c32] at H
                   exact absurd H (by simp)
                 ·
                  rw [if_neg c31] at H
                  have c31b0 : decide (x71_5 < (y296.length : Int)) = false := decide_eq_false c31
                  clear c31
                  by_cases c46 : (rdOf ByteArray.empty t291 0).toList = ([97, 114, 109] : List UInt8)
                  ·
                   rw [if_pos c46] at H
                   have c46b0 : ((rdOf ByteArray.empty t291 0).toList == ([97, 114, 109] : List UInt8)) = true := beq_iff_eq.mpr c46
                   have c46b1 : ((rdOf ByteArray.empty t291 0).toList != ([97, 114, 109] : List UInt8)) = false := bne_eq_false_iff_eq.mpr c46
                   clear c46
                   have HC47 := Aside0.mk H
                   clear H
                   have hnb48 := NB300_290.out
                   have hnc48 := NB290_300.out
                   obtain ⟨hcz49_0, hcz49_1, hcz49_2, hcz49_3, hcz49_4, hcz49_5, hcz49_6, hcz49_7, hcz49_8, hfz49_0, hfz49_1, hfz49_2, hfz49_3, hfz49_4, hfz49_5, hfz49_6, hfz49_7, hfz49_8⟩ := Rgn.cf9 BK300.out
                   obtain ⟨Ao50, co50, eo50⟩ := Kd.R_slice HO_301008.out
                   subst eo50
                   go_upto_region 35 with (fail)
                   repeat (go_quiet (fail); go_upto_region 35 with (fail))
                   go_cut [107] from 107 to 108 (fun v107 wc => ∃ (kq : Nat) (x107_46 : Bool), v107 = .bool x107_46 ∧ Aside0 (impl_ParseLine.j5 kq (wrap64 ((x301008_5.length : Int) - 1)) x107_46 4 0 (⟨#[]⟩ : ByteArray) (⟨#[]⟩ : ByteArray) 0 0 0 (⟨#[]⟩ : ByteArray) x301008_5 = some (r1, r2, r3, r4, r5, r6, r7, r8, r9)) ∧ Aside0 (kq ≤ k5) ∧ Aside0 (Kd.R (Kd.int .i64) 2 wc w.heap.size (fun _ => True) (.slice Ao50 x301008_5.length co50) x301008_5) ∧ Aside0 (wc.heap[gb290]? = some (.cells #[.int .i64 x291000_5, .int .i64 x291001_5, .string x291002_5, .string x291003_5, .int .i64 x291004_5, .int .i64 x291005_5, .int .i64 x291006_5, .string x291007_5, (.slice none 0 0)] 27 (0, 0))) ∧ Aside0 (wc.heap[gb300]? = some (.cells #[.int .i64 4, .int .i64 0, .string (⟨#[]⟩ : ByteArray), .string (⟨#[]⟩ : ByteArray), .int .i64 0, .int .i64 0, .int .i64 0, .string (⟨#[]⟩ : ByteArray), (.slice Ao50 x301008_5.length co50)] 27 (0, 0))) ∧ Aside0 (Below w.heap.size w wc))
                   case first =>
                    have H := HC47.out
                    clear HC47
                    by_cases c51 : (wrap64 ((x301008_5.length : Int) - 1)) < 0
                    ·
                     rw [if_pos c51] at H
                     have c51b0 : decide ((wrap64 ((x301008_5.length : Int) - 1)) < 0) = true := decide_eq_true c51
                     clear c51
                     (first | rw [c51b0] | (simp only [i64_w, i32_w]; rw [c51b0]) | skip)
                     have H' := Aside0.mk H
                     clear H
                     go_wp2
                     repeat (go_quiet (fail); try go_wp2)
                     go_meet
                     case rel => exact ⟨_, (true), (by first | rfl | (simp; done) | (simp [*]; done)), H', ⟨by have := HJ1.out; have := HK2.out; have := HJ17.out; have := HJ26.out; have := HK5.out; first | omega | exact Nat.le_refl _⟩, ⟨by (with_reducible repeat (first | apply Kd.R_alloc | apply Kd.R_drewN | apply Kd.R_drew)); exact Kd.R_mono (Kd.R_far (p := ⟨gb300, 0, none⟩) (Kd.R_far (p := ⟨gb300, 0, none⟩) (Kd.R_types HO_301008.out BK300.out (by decide)) (fun _ hk => hk.2) (.int .i64 5)) (fun _ hk => hk.2) (.int .i64 4)) (fun _ hk => trivial)⟩, ⟨Rgn.kf BK290.out⟩, ⟨by (with_reducible repeat (first | refine blk_drewN ?_ _ | refine blk_drew ?_ | refine blk_alloc ?_ _)); refine blk_put (cs := #[.int .i64 5, .int .i64 0, .string (⟨#[]⟩ : ByteArray), .string (⟨#[]⟩ : ByteArray), .int .i64 0, .int .i64 0, .int .i64 0, .string (⟨#[]⟩ : ByteArray), .slice Ao50 x301008_5.length co50]) ?_ 0 _ rfl; (with_reducible repeat (first | refine blk_drewN ?_ _ | refine blk_drew ?_ | refine blk_alloc ?_ _)); refine blk_put (cs := #[.int .i64 0, .int .i64 0, .string (⟨#[]⟩ : ByteArray), .string (⟨#[]⟩ : ByteArray), .int .i64 0, .int .i64 0, .int .i64 0, .string (⟨#[]⟩ : ByteArray), _]) ?_ 0 _ rfl; (with_reducible repeat (first | refine blk_drewN ?_ _ | refine blk_drew ?_ | refine blk_alloc ?_ _)); exact BK300.out⟩, ⟨Rgn.bq HB.out⟩⟩
                    ·
                     rw [if_neg c51] at H
                     have c51b0 : decide ((wrap64 ((x301008_5.length : Int) - 1)) < 0) = false := decide_eq_false c51
                     clear c51
                     (first | rw [c51b0] | (simp only [i64_w, i32_w]; rw [c51b0]) | skip)
                     by_cases c52 : 0 < (x301008_5.length : Int)
                     ·
                      rw [if_pos c52] at H
                      have c52b0 : decide (0 < (x301008_5.length : Int)) = true := decide_eq_true c52
                      have c52b1 : decide (0 < x301008_5.length) = true := decide_eq_true (by omega)
                      clear c52
                      have H' := Aside0.mk H
                      clear H
                      have hnb53 := NB300_290.out
                      have hnc53 := NB290_300.out
                      obtain ⟨hcz54_0, hcz54_1, hcz54_2, hcz54_3, hcz54_4, hcz54_5, hcz54_6, hcz54_7, hcz54_8, hfz54_0, hfz54_1, hfz54_2, hfz54_3, hfz54_4, hfz54_5, hfz54_6, hfz54_7, hfz54_8⟩ := Rgn.cf9 BK300.out
                      have p307 : 0 ≤ (0 : Int) := (by omega)
                      have q307 : 0 < (x301008_5.length : Int) := of_decide_eq_true (by first | (with_reducible assumption) | assumption)
                      obtain ⟨ad307, e307, hx307_0⟩ := Kd.at_int (Kd.R_reads' HO_301008.out).2.2 0 p307 q307
                      cases e307
                      have qi307 : (0 < x301008_5.length) = True := eq_true (by omega)
                      (try rw [show ((0 : Int)).toNat = 0 from rfl] at hx307_0)
                      (try rw [Addr.add_zero'] at hx307_0)
                      have hn307_0 : ad307.block ≠ gb300 := Kd.own_blk (Kd.R_ne HO_301008.out BK300.out (by decide))
                      have hn307_1 : ad307.block ≠ gb300 := Kd.own_blk (Kd.R_ne HO_301008.out BK300.out (by decide))
                      replace hx307_0 := (cell_far (p := ⟨gb300, 0, none⟩) (by first | (rw [add_block]; exact hn307_0) | (show (Addr.add _ _).block ≠ _; rw [add_block]; exact hn307_0) | exact hn307_0) (.int .i64 5)).trans hx307_0
                      replace hx307_0 := (cell_far (p := ⟨gb300, 0, none⟩) (by first | (rw [add_block]; exact hn307_1) | (show (Addr.add _ _).block ≠ _; rw [add_block]; exact hn307_1) | exact hn307_1) (.int .i64 4)).trans hx307_0
                      (try have hy307_0 := fun (n_ : Nat) => (show ((((wr.drewN n_).setCell ⟨gb300, 0, none⟩ (.int .i64 5)).setCell ⟨gb300, 0, none⟩ (.int .i64 4))).cell? _ = some _ from hx307_0))
                      clear hn307_0
                      clear hn307_1
                      replace p307 := eq_true p307
                      replace q307 := eq_true q307
                      go_wp2
                      repeat (go_quiet (fail); try go_wp2)
                      go_meet
                      case rel => exact ⟨_, (decide ((rd x301008_5 0) < 1)), (by first | rfl | (simp; done) | (simp [*]; done)), H', ⟨by have := HJ1.out; have := HK2.out; have := HJ17.out; have := HJ26.out; have := HK5.out; first | omega | exact Nat.le_refl _⟩, ⟨by (with_reducible repeat (first | apply Kd.R_alloc | apply Kd.R_drewN | apply Kd.R_drew)); exact Kd.R_mono (Kd.R_far (p := ⟨gb300, 0, none⟩) (Kd.R_far (p := ⟨gb300, 0, none⟩) (Kd.R_types HO_301008.out BK300.out (by decide)) (fun _ hk => hk.2) (.int .i64 5)) (fun _ hk => hk.2) (.int .i64 4)) (fun _ hk => trivial)⟩, ⟨Rgn.kf BK290.out⟩, ⟨by (with_reducible repeat (first | refine blk_drewN ?_ _ | refine blk_drew ?_ | refine blk_alloc ?_ _)); refine blk_put (cs := #[.int .i64 5, .int .i64 0, .string (⟨#[]⟩ : ByteArray), .string (⟨#[]⟩ : ByteArray), .int .i64 0, .int .i64 0, .int .i64 0, .string (⟨#[]⟩ : ByteArray), .slice (some ad307) x301008_5.length co50]) ?_ 0 _ rfl; (with_reducible repeat (first | refine blk_drewN ?_ _ | refine blk_drew ?_ | refine blk_alloc ?_ _)); refine blk_put (cs := #[.int .i64 0, .int .i64 0, .string (⟨#[]⟩ : ByteArray), .string (⟨#[]⟩ : ByteArray), .int .i64 0, .int .i64 0, .int .i64 0, .string (⟨#[]⟩ : ByteArray), _]) ?_ 0 _ rfl; (with_reducible repeat (first | refine blk_drewN ?_ _ | refine blk_drew ?_ | refine blk_alloc ?_ _)); exact BK300.out⟩, ⟨Rgn.bq HB.out⟩⟩
                     ·
                      rw [if_neg c52] at H
                      exact absurd H (by simp)
                   case rest =>
                    clear HC47
                    try clear c1
                    try clear hcv4
                    try clear c6
                    try clear c11
                    try clear c11b0
                    try clear c16
                    try clear c16b0
                    try clear c16b1
                    try clear c17
                    try clear c17b0
                    try clear c17b1
                    try clear c19
                    try clear q19
                    try clear c22
                    try clear c29
                    try clear c31
                    try clear c31b0
                    try clear c46
                    try clear c46b0
                    try clear c46b1
                    try clear hcz49_0 hcz49_1 hcz49_2 hcz49_3 hcz49_4 hcz49_5 hcz49_6 hcz49_7 hcz49_8
                    try clear hfz49_0 hfz49_1 hfz49_2 hfz49_3 hfz49_4 hfz49_5 hfz49_6 hfz49_7 hfz49_8
                    try clear hx295_0
                    try clear p295
                    try clear q19
                    try clear q295
                    obtain ⟨kq, x107_46, rfl, HA, HJ46, HO_301008, BK290, BK300, HB⟩ := hcut
                    cases kq with
                    | zero => exact absurd HA.out (by simp [impl_ParseLine.j5])
                    | succ kj46 =>
                     have H := HA.out
                     clear HA
                     simp only [impl_ParseLine.j5] at H
                     by_cases c55 : x107_46 = true
                     ·
                      subst c55
                      replace H := Rgn.ip H
                      simp only [Option.some.injEq, Prod.mk.injEq] at H
                      obtain ⟨rfl, rfl, rfl, rfl, rfl, rfl, rfl, rfl, rfl⟩ := H
                      have hnb56 := NB290_300.out
                      have hnc56 := NB300_290.out
                      obtain ⟨hcz57_0, hcz57_1, hcz57_2, hcz57_3, hcz57_4, hcz57_5, hcz57_6, hcz57_7, hcz57_8, hfz57_0, hfz57_1, hfz57_2, hfz57_3, hfz57_4, hfz57_5, hfz57_6, hfz57_7, hfz57_8⟩ := Rgn.cf9 BK290.out
                      go_wp2
                      repeat (go_quiet (fail); try go_wp2)
                      refine bodyPost_ret (results_cell_row rfl _ _ gb290 27 _ (0, 0) _ rfl (by exact Rgn.put9 (Rgn.kf BK290.out)) Tryd.underlying27 rfl (by kernel_rfl)) rfl ?_
                      exact ⟨_, by first | rfl | (simp [errW_none, errW_some] <;> rfl) | (simp [*, errW_none, errW_some] <;> rfl), by first | exact Kd.R_nil _ _ _ _ _ | exact Kd.N_nil _ _ _ _ _ | exact Kd.V_nil _ _ _ _ _ | exact Kd.Q_nil _ _ _ _ _ | exact Kd.S_nil _ _ _ _ _, Rgn.bq HB.out⟩
                     ·
                      replace c55 := Bool.eq_false_iff.mpr c55
                      subst c55
                      replace H := Rgn.im H
                      by_cases c58 : (wrap64 ((x301008_5.length : Int) - 1)) > 600
                      ·
                       rw [if_pos c58] at H
                       have c58b0 : decide (600 < (wrap64 ((x301008_5.length : Int) - 1))) = true := decide_eq_true c58
                       clear c58
                       simp only [Option.some.injEq, Prod.mk.injEq] at H
                       obtain ⟨rfl, rfl, rfl, rfl, rfl, rfl, rfl, rfl, rfl⟩ := H
                       have hnb59 := NB290_300.out
                       have hnc59 := NB300_290.out
                       obtain ⟨hcz60_0, hcz60_1, hcz60_2, hcz60_3, hcz60_4, hcz60_5, hcz60_6, hcz60_7, hcz60_8, hfz60_0, hfz60_1, hfz60_2, hfz60_3, hfz60_4, hfz60_5, hfz60_6, hfz60_7, hfz60_8⟩ := Rgn.cf9 BK290.out
                       go_wp2
                       repeat (go_quiet (fail); try go_wp2)
                       refine bodyPost_ret (results_cell_row rfl _ _ gb290 27 _ (0, 0) _ rfl (by exact Rgn.put9 (Rgn.kf BK290.out)) Tryd.underlying27 rfl (by kernel_rfl)) rfl ?_
                       exact ⟨_, by first | rfl | (simp [errW_none, errW_some] <;> rfl) | (simp [*, errW_none, errW_some] <;> rfl), by first | exact Kd.R_nil _ _ _ _ _ | exact Kd.N_nil _ _ _ _ _ | exact Kd.V_nil _ _ _ _ _ | exact Kd.Q_nil _ _ _ _ _ | exact Kd.S_nil _ _ _ _ _, Rgn.bq HB.out⟩
                      ·
                       rw [if_neg c58] at H
                       have c58b0 : decide (600 < (wrap64 ((x301008_5.length : Int) - 1))) = false := decide_eq_false c58
                       clear c58
                       simp only [Option.some.injEq, Prod.mk.injEq] at H
                       obtain ⟨rfl, rfl, rfl, rfl, rfl, rfl, rfl, rfl, rfl⟩ := H
                       have hnb61 := NB300_290.out
                       have hnc61 := NB290_300.out
                       obtain ⟨hcz62_0, hcz62_1, hcz62_2, hcz62_3, hcz62_4, hcz62_5, hcz62_6, hcz62_7, hcz62_8, hfz62_0, hfz62_1, hfz62_2, hfz62_3, hfz62_4, hfz62_5, hfz62_6, hfz62_7, hfz62_8⟩ := Rgn.cf9 BK300.out
                       obtain ⟨hcz63_0, hcz63_1, hcz63_2, hcz63_3, hcz63_4, hcz63_5, hcz63_6, hcz63_7, hcz63_8, hfz63_0, hfz63_1, hfz63_2, hfz63_3, hfz63_4, hfz63_5, hfz63_6, hfz63_7, hfz63_8⟩ := Rgn.cf9 BK290.out
                       go_wp2
                       repeat (go_quiet (fail); try go_wp2)
                       refine bodyPost_ret (results_cell_row rfl _ _ gb290 27 _ (0, 0) _ rfl (by exact Rgn.put9 (Rgn.kf BK290.out)) Tryd.underlying27 rfl (by kernel_rfl)) rfl ?_
                       exact ⟨_, by first | rfl | (simp [errW_none, errW_some] <;> rfl) | (simp [*, errW_none, errW_some] <;> rfl), by (with_reducible repeat (first | apply Kd.R_alloc | apply Kd.R_drewN | apply Kd.R_drew)); exact Kd.R_mono (Kd.R_far (p := ⟨gb290, 8, none⟩) (Kd.R_far (p := ⟨gb290, 7, none⟩) (Kd.R_far (p := ⟨gb290, 6, none⟩) (Kd.R_far (p := ⟨gb290, 5, none⟩) (Kd.R_far (p := ⟨gb290, 4, none⟩) (Kd.R_far (p := ⟨gb290, 3, none⟩) (Kd.R_far (p := ⟨gb290, 2, none⟩) (Kd.R_far (p := ⟨gb290, 1, none⟩) (Kd.R_far (p := ⟨gb290, 0, none⟩) (Kd.R_types HO_301008.out BK290.out (by decide)) (fun _ hk => hk.2) (.int .i64 4)) (fun _ hk => hk.2) (.int .i64 0)) (fun _ hk => hk.2) (.string (⟨#[]⟩ : ByteArray))) (fun _ hk => hk.2) (.string (⟨#[]⟩ : ByteArray))) (fun _ hk => hk.2) (.int .i64 0)) (fun _ hk => hk.2) (.int .i64 0)) (fun _ hk => hk.2) (.int .i64 0)) (fun _ hk => hk.2) (.string (⟨#[]⟩ : ByteArray))) (fun _ hk => hk.2) (.slice Ao50 x301008_5.length co50)) (fun _ hk => trivial), Rgn.bq HB.out⟩
                  ·
                   rw [if_neg c46] at H
                   have c46b0 : ((rdOf ByteArray.empty t291 0).toList == ([97, 114, 109] : List UInt8)) = false := beq_eq_false_iff_ne.mpr c46
                   have c46b1 : ((rdOf ByteArray.empty t291 0).toList != ([97, 114, 109] : List UInt8)) = true := bne_iff_ne.mpr c46
                   by_cases c64 : (x301008_5.length : Int) > 600
                   ·
                    rw [if_pos c64] at H
                    have c64b0 : decide (600 < (x301008_5.length : Int)) = true := decide_eq_true c64
                    have c64b1 : decide (600 < x301008_5.length) = true := decide_eq_true (by omega)
                    clear c64
                    simp only [Option.some.injEq, Prod.mk.injEq] at H
                    obtain ⟨rfl, rfl, rfl, rfl, rfl, rfl, rfl, rfl, rfl⟩ := H
                    have hnb65 := NB300_290.out
                    have hnc65 := NB290_300.out
                    obtain ⟨hcz66_0, hcz66_1, hcz66_2, hcz66_3, hcz66_4, hcz66_5, hcz66_6, hcz66_7, hcz66_8, hfz66_0, hfz66_1, hfz66_2, hfz66_3, hfz66_4, hfz66_5, hfz66_6, hfz66_7, hfz66_8⟩ := Rgn.cf9 BK300.out
                    obtain ⟨Ao67, co67, eo67⟩ := Kd.R_slice HO_301008.out
                    subst eo67
                    obtain ⟨hcz68_0, hcz68_1, hcz68_2, hcz68_3, hcz68_4, hcz68_5, hcz68_6, hcz68_7, hcz68_8, hfz68_0, hfz68_1, hfz68_2, hfz68_3, hfz68_4, hfz68_5, hfz68_6, hfz68_7, hfz68_8⟩ := Rgn.cf9 BK290.out
                    go_wp2
                    repeat (go_quiet (fail); try go_wp2)
                    refine bodyPost_ret (results_cell_row rfl _ _ gb290 27 _ (0, 0) _ rfl (by exact Rgn.put9 (Rgn.kf BK290.out)) Tryd.underlying27 rfl (by kernel_rfl)) rfl ?_
                    exact ⟨_, by first | rfl | (simp [errW_none, errW_some] <;> rfl) | (simp [*, errW_none, errW_some] <;> rfl), by first | exact Kd.R_nil _ _ _ _ _ | exact Kd.N_nil _ _ _ _ _ | exact Kd.V_nil _ _ _ _ _ | exact Kd.Q_nil _ _ _ _ _ | exact Kd.S_nil _ _ _ _ _, Rgn.bq HB.out⟩
                   ·
                    rw [if_neg c64] at H
                    have c64b0 : decide (600 < (x301008_5.length : Int)) = false := decide_eq_false c64
                    have c64b1 : decide (600 < x301008_5.length) = false := decide_eq_false (by omega)
                    clear c64
                    simp only [Option.some.injEq, Prod.mk.injEq] at H
                    obtain ⟨rfl, rfl, rfl, rfl, rfl, rfl, rfl, rfl, rfl⟩ := H
                    have hnb69 := NB300_290.out
                    have hnc69 := NB290_300.out
                    obtain ⟨hcz70_0, hcz70_1, hcz70_2, hcz70_3, hcz70_4, hcz70_5, hcz70_6, hcz70_7, hcz70_8, hfz70_0, hfz70_1, hfz70_2, hfz70_3, hfz70_4, hfz70_5, hfz70_6, hfz70_7, hfz70_8⟩ := Rgn.cf9 BK300.out
                    obtain ⟨Ao71, co71, eo71⟩ := Kd.R_slice HO_301008.out
                    subst eo71
                    obtain ⟨hcz72_0, hcz72_1, hcz72_2, hcz72_3, hcz72_4, hcz72_5, hcz72_6, hcz72_7, hcz72_8, hfz72_0, hfz72_1, hfz72_2, hfz72_3, hfz72_4, hfz72_5, hfz72_6, hfz72_7, hfz72_8⟩ := Rgn.cf9 BK290.out
                    go_wp2
                    repeat (go_quiet (fail); try go_wp2)
                    refine bodyPost_ret (results_cell_row rfl _ _ gb290 27 _ (0, 0) _ rfl (by exact Rgn.put9 (Rgn.kf BK290.out)) Tryd.underlying27 rfl (by kernel_rfl)) rfl ?_
                    exact ⟨_, by first | rfl | (simp [errW_none, errW_some] <;> rfl) | (simp [*, errW_none, errW_some] <;> rfl), by (with_reducible repeat (first | apply Kd.R_alloc | apply Kd.R_drewN | apply Kd.R_drew)); exact Kd.R_mono (Kd.R_far (p := ⟨gb290, 8, none⟩) (Kd.R_far (p := ⟨gb290, 7, none⟩) (Kd.R_far (p := ⟨gb290, 6, none⟩) (Kd.R_far (p := ⟨gb290, 5, none⟩) (Kd.R_far (p := ⟨gb290, 4, none⟩) (Kd.R_far (p := ⟨gb290, 3, none⟩) (Kd.R_far (p := ⟨gb290, 2, none⟩) (Kd.R_far (p := ⟨gb290, 1, none⟩) (Kd.R_far (p := ⟨gb290, 0, none⟩) (Kd.R_far (p := ⟨gb300, 0, none⟩) (Kd.R_types (Kd.R_types HO_301008.out BK300.out (by decide)) BK290.out (by decide)) (fun _ hk => hk.1.2) (.int .i64 5)) (fun _ hk => hk.2) (.int .i64 5)) (fun _ hk => hk.2) (.int .i64 0)) (fun _ hk => hk.2) (.string (⟨#[]⟩ : ByteArray))) (fun _ hk => hk.2) (.string (⟨#[]⟩ : ByteArray))) (fun _ hk => hk.2) (.int .i64 0)) (fun _ hk => hk.2) (.int .i64 0)) (fun _ hk => hk.2) (.int .i64 0)) (fun _ hk => hk.2) (.string (⟨#[]⟩ : ByteArray))) (fun _ hk => hk.2) (.slice Ao71 x301008_5.length co71)) (fun _ hk => trivial), Rgn.bq HB.out⟩
              ·
               replace c29 := Bool.eq_false_iff.mpr c29
               subst c29
               replace H := Rgn.im H
               replace H := Option.bind_eq_some_iff.mp H
               obtain ⟨t308, A730, H⟩ := H
               replace H : ((Shp.kindO (rdOf ByteArray.empty t291 0)).bind fun t309 => (if t309 = 0 then (impl_ParseLine.j6 kj26 y296 true t309 t308) else (impl_ParseLine.j6 kj26 y296 ((y296.length : Int) != (t308.size : Int)) t309 t308))) = some (r1, r2, r3, r4, r5, r6, r7, r8, r9) := H
               have A73 := Aside0.mk A730
               clear A730
               replace H := Option.bind_eq_some_iff.mp H
               obtain ⟨t309, A740, H⟩ := H
               replace H : (if t309 = 0 then (impl_ParseLine.j6 kj26 y296 true t309 t308) else (impl_ParseLine.j6 kj26 y296 ((y296.length : Int) != (t308.size : Int)) t309 t308)) = some (r1, r2, r3, r4, r5, r6, r7, r8, r9) := H
               have A74 := Aside0.mk A740
               clear A740
               have HC75 := Aside0.mk H
               clear H
               go_upto_region 41 with (first | ((with_reducible refine gate_dst (N := 114) rfl ?_); refine Shp.glob_event rfl rfl GC.out (Rgn.bq HB.out) ?_) | ((with_reducible refine gate_dst (N := 116) rfl ?_); refine Shp.look_shape rfl _ _ rfl rfl rfl GB.out (Rgn.bq HB.out) GL.out A73.out A74.out ?_) | ((with_reducible refine gate_dst (N := 14) rfl ?_); (try (refine gate_guard (by rfl) ?_; dsimp only)); refine Rgn.bx 14 #[.int .i64 0, .string (⟨#[]⟩ : ByteArray)] 73 ?_; intro gb310 hg w77 hbox hb; replace HO_4 := Aside0.mk (Kd.Q_below (by (with_reducible repeat (first | apply Kd.Q_alloc | apply Kd.Q_drewN | apply Kd.Q_drew)); exact HO_4.out) hb); have BK310 := Aside0.mk (hbox); have GW310 := Aside0.mk (Rgn.ge hg HB.out); have GE310 := Aside0.mk (Rgn.ge hg HB.out); replace HB := Aside0.mk (below_step (Rgn.bq HB.out) hb); have NB290_310 := Aside0.mk (Rgn.nl hg BK290.out); have NB310_290 := Aside0.mk (Rgn.ng hg BK290.out); replace BK290 := Aside0.mk (Rgn.bb BK290.out hb); clear hb hbox hg; have hnb78 := NB310_290.out; have hnc78 := NB290_310.out; obtain ⟨hcz79_0, hcz79_1, hfz79_0, hfz79_1⟩ := Rgn.c2 BK310.out))
               repeat (go_quiet (fail); go_upto_region 41 with (first | ((with_reducible refine gate_dst (N := 114) rfl ?_); refine Shp.glob_event rfl rfl GC.out (Rgn.bq HB.out) ?_) | ((with_reducible refine gate_dst (N := 116) rfl ?_); refine Shp.look_shape rfl _ _ rfl rfl rfl GB.out (Rgn.bq HB.out) GL.out A73.out A74.out ?_) | ((with_reducible refine gate_dst (N := 14) rfl ?_); (try (refine gate_guard (by rfl) ?_; dsimp only)); refine Rgn.bx 14 #[.int .i64 0, .string (⟨#[]⟩ : ByteArray)] 73 ?_; intro gb310 hg w77 hbox hb; replace HO_4 := Aside0.mk (Kd.Q_below (by (with_reducible repeat (first | apply Kd.Q_alloc | apply Kd.Q_drewN | apply Kd.Q_drew)); exact HO_4.out) hb); have BK310 := Aside0.mk (hbox); have GW310 := Aside0.mk (Rgn.ge hg HB.out); have GE310 := Aside0.mk (Rgn.ge hg HB.out); replace HB := Aside0.mk (below_step (Rgn.bq HB.out) hb); have NB290_310 := Aside0.mk (Rgn.nl hg BK290.out); have NB310_290 := Aside0.mk (Rgn.ng hg BK290.out); replace BK290 := Aside0.mk (Rgn.bb BK290.out hb); clear hb hbox hg; have hnb78 := NB310_290.out; have hnc78 := NB290_310.out; obtain ⟨hcz79_0, hcz79_1, hfz79_0, hfz79_1⟩ := Rgn.c2 BK310.out)))
               (try simp only [Act.put, List.setIfInBounds_toArray, List.set_cons_zero, List.set_cons_succ])
               go_cut [128] from 128 to 129 (fun v128 wc => ∃ (kq : Nat) (x128_74 : Bool), v128 = .bool x128_74 ∧ Aside0 (impl_ParseLine.j6 kq y296 x128_74 t309 t308 = some (r1, r2, r3, r4, r5, r6, r7, r8, r9)) ∧ Aside0 (kq ≤ kj26) ∧ Aside0 (Kd.Q Kd.string 9 wc w.heap.size (fun _ => True) (.slice A19 y296.length c19) y296) ∧ Aside0 (wc.heap[gb290]? = some (.cells #[.int .i64 x291000_2, .int .i64 x291001_2, .string x291002_2, .string x291003_2, .int .i64 x291004_2, .int .i64 x291005_2, .int .i64 x291006_2, .string x291007_2, (.slice none 0 0)] 27 (0, 0))) ∧ Aside0 (wc.heap[gb310]? = some (.cells #[.int .i64 t309, .string t308] 73 (0, 0))) ∧ Aside0 (Below w.heap.size w wc))
               case first =>
                have H := HC75.out
                clear HC75
                by_cases c80 : t309 = 0
                ·
                 rw [if_pos c80] at H
                 have c80b0 : (t309 == 0) = true := beq_iff_eq.mpr c80
                 have c80b1 : (t309 != 0) = false := bne_eq_false_iff_eq.mpr c80
                 clear c80
                 (first | rw [c80b0] | (simp only [i64_w, i32_w]; rw [c80b0]) | skip)
                 have H' := Aside0.mk H
                 clear H
                 go_wp2
                 repeat (go_quiet (fail); try go_wp2)
                 go_meet
                 case rel => exact ⟨_, (true), (by first | rfl | (simp; done) | (simp [*]; done)), H', ⟨by have := HJ1.out; have := HK2.out; have := HJ17.out; have := HJ26.out; first | omega | exact Nat.le_refl _⟩, ⟨by (with_reducible repeat (first | apply Kd.Q_alloc | apply Kd.Q_drewN | apply Kd.Q_drew)); exact Kd.Q_mono (Kd.Q_far (p := ⟨gb310, 1, none⟩) (Kd.Q_far (p := ⟨gb310, 0, none⟩) (Kd.Q_types HO_4.out BK310.out (by decide)) (fun _ hk => hk.2) (.int .i64 t309)) (fun _ hk => hk.2) (.string t308)) (fun _ hk => trivial)⟩, ⟨Rgn.kf BK290.out⟩, ⟨by (with_reducible repeat (first | refine blk_drewN ?_ _ | refine blk_drew ?_ | refine blk_alloc ?_ _)); refine blk_put (cs := #[.int .i64 t309, .string (⟨#[]⟩ : ByteArray)]) ?_ 1 _ rfl; (with_reducible repeat (first | refine blk_drewN ?_ _ | refine blk_drew ?_ | refine blk_alloc ?_ _)); refine blk_put (cs := #[.int .i64 0, .string (⟨#[]⟩ : ByteArray)]) ?_ 0 _ rfl; (with_reducible repeat (first | refine blk_drewN ?_ _ | refine blk_drew ?_ | refine blk_alloc ?_ _)); exact BK310.out⟩, ⟨Rgn.bq HB.out⟩⟩
                ·
                 rw [if_neg c80] at H
                 have c80b0 : (t309 == 0) = false := beq_eq_false_iff_ne.mpr c80
                 have c80b1 : (t309 != 0) = true := bne_iff_ne.mpr c80
                 (first | rw [c80b0] | (simp only [i64_w, i32_w]; rw [c80b0]) | skip)
                 have H' := Aside0.mk H
                 clear H
                 have hnb81 := NB310_290.out
                 have hnc81 := NB290_310.out
                 have hcz82_0 := Rgn.cz0 BK310.out
                 have hcz82_1 := Rgn.cz1 BK310.out
                 have hfz82_0 := blk_frozen BK310.out 0
                 have hfz82_1 := blk_frozen BK310.out 1
                 go_wp2
                 repeat (go_quiet (fail); try go_wp2)
                 go_meet
                 case rel => exact ⟨_, (((y296.length : Int) != (t308.size : Int))), (by first | rfl | (simp; done) | (simp [*]; done)), H', ⟨by have := HJ1.out; have := HK2.out; have := HJ17.out; have := HJ26.out; first | omega | exact Nat.le_refl _⟩, ⟨by (with_reducible repeat (first | apply Kd.Q_alloc | apply Kd.Q_drewN | apply Kd.Q_drew)); exact Kd.Q_mono (Kd.Q_far (p := ⟨gb310, 1, none⟩) (Kd.Q_far (p := ⟨gb310, 0, none⟩) (Kd.Q_types HO_4.out BK310.out (by decide)) (fun _ hk => hk.2) (.int .i64 t309)) (fun _ hk => hk.2) (.string t308)) (fun _ hk => trivial)⟩, ⟨Rgn.kf BK290.out⟩, ⟨by (with_reducible repeat (first | refine blk_drewN ?_ _ | refine blk_drew ?_ | refine blk_alloc ?_ _)); refine blk_put (cs := #[.int .i64 t309, .string (⟨#[]⟩ : ByteArray)]) ?_ 1 _ rfl; (with_reducible repeat (first | refine blk_drewN ?_ _ | refine blk_drew ?_ | refine blk_alloc ?_ _)); refine blk_put (cs := #[.int .i64 0, .string (⟨#[]⟩ : ByteArray)]) ?_ 0 _ rfl; (with_reducible repeat (first | refine blk_drewN ?_ _ | refine blk_drew ?_ | refine blk_alloc ?_ _)); exact BK310.out⟩, ⟨Rgn.bq HB.out⟩⟩
               case rest =>
                clear HC75
                try clear c1
                try clear c2
                try clear hcv4
                try clear c6
                try clear c11
                try clear c11b0
                try clear c16
                try clear c16b0
                try clear c16b1
                try clear c17
                try clear c17b0
                try clear c17b1
                try clear c19
                try clear q19
                try clear c22
                try clear c29
                try clear hcz79_0 hcz79_1
                try clear hfz79_0 hfz79_1
                try clear hx295_0
                try clear p295
                try clear q19
                try clear q295
                obtain ⟨kq, x128_74, rfl, HA, HJ74, HO_4, BK290, BK310, HB⟩ := hcut
                cases kq with
                | zero => exact absurd HA.out (by simp [impl_ParseLine.j6])
                | succ kj74 =>
                 have H := HA.out
                 clear HA
                 simp only [impl_ParseLine.j6] at H
                 by_cases c83 : x128_74 = true
                 ·
                  subst c83
                  replace H := Rgn.ip H
                  simp only [Option.some.injEq, Prod.mk.injEq] at H
                  obtain ⟨rfl, rfl, rfl, rfl, rfl, rfl, rfl, rfl, rfl⟩ := H
                  have hnb84 := NB290_310.out
                  have hnc84 := NB310_290.out
                  obtain ⟨hcz85_0, hcz85_1, hcz85_2, hcz85_3, hcz85_4, hcz85_5, hcz85_6, hcz85_7, hcz85_8, hfz85_0, hfz85_1, hfz85_2, hfz85_3, hfz85_4, hfz85_5, hfz85_6, hfz85_7, hfz85_8⟩ := Rgn.cf9 BK290.out
                  go_wp2
                  repeat (go_quiet (fail); try go_wp2)
                  refine bodyPost_ret (results_cell_row rfl _ _ gb290 27 _ (0, 0) _ rfl (by exact Rgn.put9 (Rgn.kf BK290.out)) Tryd.underlying27 rfl (by kernel_rfl)) rfl ?_
                  exact ⟨_, by first | rfl | (simp [errW_none, errW_some] <;> rfl) | (simp [*, errW_none, errW_some] <;> rfl), by first | exact Kd.R_nil _ _ _ _ _ | exact Kd.N_nil _ _ _ _ _ | exact Kd.V_nil _ _ _ _ _ | exact Kd.Q_nil _ _ _ _ _ | exact Kd.S_nil _ _ _ _ _, Rgn.bq HB.out⟩
                 ·
                  replace c83 := Bool.eq_false_iff.mpr c83
                  subst c83
                  replace H := Rgn.im H
                  have H' := Aside0.mk H
                  clear H
                  have hnb86 := NB310_290.out
                  have hnc86 := NB290_310.out
                  have hcz87_0 := Rgn.cz0 BK310.out
                  have hcz87_1 := Rgn.cz1 BK310.out
                  have hfz87_0 := blk_frozen BK310.out 0
                  have hfz87_1 := blk_frozen BK310.out 1
                  go_wp2_with (first | ((with_reducible refine gate_dst (N := 16) rfl ?_); (try (refine gate_guard (by rfl) ?_; dsimp only)); refine Rgn.bx 16 #[.int .i64 0, .string (⟨#[]⟩ : ByteArray), .string (⟨#[]⟩ : ByteArray), .int .i64 0, .int .i64 0, .int .i64 0, .string (⟨#[]⟩ : ByteArray)] 24 ?_; intro gb311 hg w88 hbox hb; replace HO_4 := Aside0.mk (Kd.Q_below (by (with_reducible repeat (first | apply Kd.Q_alloc | apply Kd.Q_drewN | apply Kd.Q_drew)); exact HO_4.out) hb); have BK311 := Aside0.mk (hbox); have GW311 := Aside0.mk (Rgn.ge hg HB.out); have GE311 := Aside0.mk (Rgn.ge hg HB.out); replace HB := Aside0.mk (below_step (Rgn.bq HB.out) hb); have NB290_311 := Aside0.mk (Rgn.nl hg BK290.out); have NB311_290 := Aside0.mk (Rgn.ng hg BK290.out); replace BK290 := Aside0.mk (Rgn.bb BK290.out hb); have NB310_311 := Aside0.mk (Rgn.nl hg BK310.out); have NB311_310 := Aside0.mk (Rgn.ng hg BK310.out); replace BK310 := Aside0.mk (Rgn.bb BK310.out hb); clear hb hbox hg; have hnb89 := NB311_290.out; have hnc89 := NB290_311.out; have hnb90 := NB311_310.out; have hnc90 := NB310_311.out; obtain ⟨hcz91_0, hcz91_1, hcz91_2, hcz91_3, hcz91_4, hcz91_5, hcz91_6, hfz91_0, hfz91_1, hfz91_2, hfz91_3, hfz91_4, hfz91_5, hfz91_6⟩ := Rgn.cf7 BK311.out))
                  repeat (go_quiet (fail); try go_wp2_with (first | ((with_reducible refine gate_dst (N := 16) rfl ?_); (try (refine gate_guard (by rfl) ?_; dsimp only)); refine Rgn.bx 16 #[.int .i64 0, .string (⟨#[]⟩ : ByteArray), .string (⟨#[]⟩ : ByteArray), .int .i64 0, .int .i64 0, .int .i64 0, .string (⟨#[]⟩ : ByteArray)] 24 ?_; intro gb311 hg w88 hbox hb; replace HO_4 := Aside0.mk (Kd.Q_below (by (with_reducible repeat (first | apply Kd.Q_alloc | apply Kd.Q_drewN | apply Kd.Q_drew)); exact HO_4.out) hb); have BK311 := Aside0.mk (hbox); have GW311 := Aside0.mk (Rgn.ge hg HB.out); have GE311 := Aside0.mk (Rgn.ge hg HB.out); replace HB := Aside0.mk (below_step (Rgn.bq HB.out) hb); have NB290_311 := Aside0.mk (Rgn.nl hg BK290.out); have NB311_290 := Aside0.mk (Rgn.ng hg BK290.out); replace BK290 := Aside0.mk (Rgn.bb BK290.out hb); have NB310_311 := Aside0.mk (Rgn.nl hg BK310.out); have NB311_310 := Aside0.mk (Rgn.ng hg BK310.out); replace BK310 := Aside0.mk (Rgn.bb BK310.out hb); clear hb hbox hg; have hnb89 := NB311_290.out; have hnc89 := NB290_311.out; have hnb90 := NB311_310.out; have hnc90 := NB310_311.out; obtain ⟨hcz91_0, hcz91_1, hcz91_2, hcz91_3, hcz91_4, hcz91_5, hcz91_6, hfz91_0, hfz91_1, hfz91_2, hfz91_3, hfz91_4, hfz91_5, hfz91_6⟩ := Rgn.cf7 BK311.out)))
                  go_loopg [17, 135] kj74 (fun kq v17 v135 w' => ∃ (x17_6 : Int) (x135_6 : Int) (x291000_6 : Int) (x291001_6 : Int) (x291002_6 : ByteArray) (x291003_6 : ByteArray) (x291004_6 : Int) (x291005_6 : Int) (x291006_6 : Int) (x291007_6 : ByteArray) (x312001_6 : ByteArray) (x312002_6 : ByteArray) (x312003_6 : Int) (x312004_6 : Int) (x312005_6 : Int) (x312006_6 : ByteArray), v17 = .int .i64 x17_6 ∧ v135 = .int .i64 x135_6 ∧ Aside0 (impl_ParseLine.l2 kq x17_6 y296 (y296.length : Int) x135_6 t309 t308 t309 x312001_6 x312002_6 x312003_6 x312004_6 x312005_6 x312006_6 = some (r1, r2, r3, r4, r5, r6, r7, r8, r9)) ∧ Aside0 (kq ≤ kj74) ∧ Aside0 (Kd.Q Kd.string 9 w' w.heap.size (fun _ => True) (.slice A19 y296.length c19) y296) ∧ Aside0 (w'.heap[gb290]? = some (.cells #[.int .i64 x291000_6, .int .i64 x291001_6, .string x291002_6, .string x291003_6, .int .i64 x291004_6, .int .i64 x291005_6, .int .i64 x291006_6, .string x291007_6, (.slice none 0 0)] 27 (0, 0))) ∧ Aside0 (w'.heap[gb310]? = some (.cells #[.int .i64 t309, .string t308] 73 (0, 0))) ∧ Aside0 (w'.heap[gb311]? = some (.cells #[.int .i64 t309, .string x312001_6, .string x312002_6, .int .i64 x312003_6, .int .i64 x312004_6, .int .i64 x312005_6, .string x312006_6] 24 (0, 0))) ∧ Aside0 (Below w.heap.size w w'))
                  case atStart => exact ⟨(0), (0), (x291000_2), (x291001_2), (x291002_2), (x291003_2), (x291004_2), (x291005_2), (x291006_2), (x291007_2), ((⟨#[]⟩ : ByteArray)), ((⟨#[]⟩ : ByteArray)), (0), (0), (0), ((⟨#[]⟩ : ByteArray)), (by first | rfl | (simp; done) | (simp [*]; done)), (by first | rfl | (simp; done) | (simp [*]; done)), H', ⟨Nat.le_refl _⟩, ⟨by (with_reducible repeat (first | apply Kd.Q_alloc | apply Kd.Q_drewN | apply Kd.Q_drew)); exact Kd.Q_mono (Kd.Q_far (p := ⟨gb311, 6, none⟩) (Kd.Q_far (p := ⟨gb311, 5, none⟩) (Kd.Q_far (p := ⟨gb311, 4, none⟩) (Kd.Q_far (p := ⟨gb311, 3, none⟩) (Kd.Q_far (p := ⟨gb311, 2, none⟩) (Kd.Q_far (p := ⟨gb311, 1, none⟩) (Kd.Q_far (p := ⟨gb311, 0, none⟩) (Kd.Q_types HO_4.out BK311.out (by decide)) (fun _ hk => hk.2) (.int .i64 t309)) (fun _ hk => hk.2) (.string (⟨#[]⟩ : ByteArray))) (fun _ hk => hk.2) (.string (⟨#[]⟩ : ByteArray))) (fun _ hk => hk.2) (.int .i64 0)) (fun _ hk => hk.2) (.int .i64 0)) (fun _ hk => hk.2) (.int .i64 0)) (fun _ hk => hk.2) (.string (⟨#[]⟩ : ByteArray))) (fun _ hk => trivial)⟩, ⟨Rgn.kf BK290.out⟩, ⟨Rgn.kf BK310.out⟩, ⟨by exact Rgn.put7 (Rgn.kf BK311.out)⟩, ⟨Rgn.bq HB.out⟩⟩
                  case round =>
                   clear H'
                   try clear c1
                   try clear c2
                   try clear hcv4
                   try clear c6
                   try clear c11
                   try clear c11b0
                   try clear c16
                   try clear c16b0
                   try clear c16b1
                   try clear c17
                   try clear c17b0
                   try clear c17b1
                   try clear c19
                   try clear q19
                   try clear c22
                   try clear c29
                   try clear c83
                   try clear hcz79_0 hcz79_1
                   try clear hcz87_0 hcz87_1
                   try clear hcz91_0 hcz91_1 hcz91_2 hcz91_3 hcz91_4 hcz91_5 hcz91_6
                   try clear hfz79_0 hfz79_1
                   try clear hfz87_0 hfz87_1
                   try clear hfz91_0 hfz91_1 hfz91_2 hfz91_3 hfz91_4 hfz91_5 hfz91_6
                   try clear hx295_0
                   try clear p295
                   try clear q19
                   try clear q295
                   obtain ⟨x17_6, x135_6, x291000_6, x291001_6, x291002_6, x291003_6, x291004_6, x291005_6, x291006_6, x291007_6, x312001_6, x312002_6, x312003_6, x312004_6, x312005_6, x312006_6, rfl, rfl, HA, HK6, HO_133, BK290, BK310, BK311, HB⟩ := hrel
                   cases gk with
                   | zero => exact absurd HA.out (by simp [impl_ParseLine.l2])
                   | succ k6 =>
                    have H := HA.out
                    clear HA
                    simp only [impl_ParseLine.l2] at H
                    by_cases c92 : x135_6 < (y296.length : Int)
                    ·
                     rw [if_pos c92] at H
                     have c92b0 : decide (x135_6 < (y296.length : Int)) = true := decide_eq_true c92
                     clear c92
                     by_cases c93 : 0 ≤ x135_6
                     ·
                      rw [if_pos c93] at H
                      have c93b0 : decide (0 ≤ x135_6) = true := decide_eq_true c93
                      clear c93
                      by_cases c94 : x135_6 < (y296.length : Int)
                      ·
                       rw [if_pos c94] at H
                       have c94b0 : decide (x135_6 < (y296.length : Int)) = true := decide_eq_true c94
                       clear c94
                       replace H := Option.bind_eq_some_iff.mp H
                       obtain ⟨⟨t313, t314⟩, A950, H⟩ := H
                       replace H : (if x135_6 < (t308.size : Int) then (if (bt t308 x135_6) = 80 then (impl_ParseLine.l2 k6 x17_6 y296 (y296.length : Int) (wrap64 (x135_6 + 1)) t309 t308 t309 (rdOf ByteArray.empty y296 x135_6) x312002_6 x312003_6 x312004_6 x312005_6 x312006_6) else (if (bt t308 x135_6) = 81 then (impl_ParseLine.l2 k6 x17_6 y296 (y296.length : Int) (wrap64 (x135_6 + 1)) t309 t308 t309 x312001_6 (rdOf ByteArray.empty y296 x135_6) x312003_6 x312004_6 x312005_6 x312006_6) else (if (bt t308 x135_6) = 68 then ((impl_Unquote.f k6 (rdOf ByteArray.empty y296 x135_6)).bind fun bt315 => (if (!bt315.1 && (bt315.2.toList == ([] : List UInt8))) = true then (some (0, 0, (⟨#[]⟩ : ByteArray), (⟨#[]⟩ : ByteArray), 0, 0, 0, (⟨#[]⟩ : ByteArray), ([] : List Int))) else (impl_ParseLine.l2 k6 x17_6 y296 (y296.length : Int) (wrap64 (x135_6 + 1)) t309 t308 t309 x312001_6 x312002_6 x312003_6 x312004_6 x312005_6 bt315.2))) else (if (bt t308 x135_6) = 87 then (if ((rdOf ByteArray.empty y296 x135_6).size : Int) = 1 then (if 0 < ((rdOf ByteArray.empty y296 x135_6).size : Int) then (if (bt (rdOf ByteArray.empty y296 x135_6) 0) < 97 then (impl_ParseLine.j8 k6 x17_6 (rdOf ByteArray.empty y296 x135_6) y296 (y296.length : Int) x135_6 true t309 t308 t309 x312001_6 x312002_6 x312003_6 x312004_6 x312005_6 x312006_6) else (impl_ParseLine.j8 k6 x17_6 (rdOf ByteArray.empty y296 x135_6) y296 (y296.length : Int) x135_6 (decide ((bt (rdOf ByteArray.empty y296 x135_6) 0) > 122)) t309 t308 t309 x312001_6 x312002_6 x312003_6 x312004_6 x312005_6 x312006_6)) else (none)) else (impl_ParseLine.j8 k6 x17_6 (rdOf ByteArray.empty y296 x135_6) y296 (y296.length : Int) x135_6 true t309 t308 t309 x312001_6 x312002_6 x312003_6 x312004_6 x312005_6 x312006_6)) else (if t314 = true then (if (bt t308 x135_6) = 78 then (impl_ParseLine.l2 k6 x17_6 y296 (y296.length : Int) (wrap64 (x135_6 + 1)) t309 t308 t309 x312001_6 x312002_6 x312003_6 t313 x312005_6 x312006_6) else (if (bt t308 x135_6) = 83 then (impl_ParseLine.l2 k6 x17_6 y296 (y296.length : Int) (wrap64 (x135_6 + 1)) t309 t308 t309 x312001_6 x312002_6 x312003_6 x312004_6 t313 x312006_6) else (if (bt t308 x135_6) = 72 then (impl_ParseLine.l2 k6 x17_6 y296 (y296.length : Int) (wrap64 (x135_6 + 1)) t309 t308 t309 x312001_6 x312002_6 t313 x312004_6 x312005_6 x312006_6) else (if (bt t308 x135_6) = 70 then ((impl_in.f t313 0 3000).bind fun t322 => (if t322 = true then (impl_ParseLine.l2 k6 t313 y296 (y296.length : Int) (wrap64 (x135_6 + 1)) t309 t308 t309 x312001_6 x312002_6 x312003_6 x312004_6 x312005_6 x312006_6) else (some (0, 0, (⟨#[]⟩ : ByteArray), (⟨#[]⟩ : ByteArray), 0, 0, 0, (⟨#[]⟩ : ByteArray), ([] : List Int))))) else (impl_ParseLine.l2 k6 x17_6 y296 (y296.length : Int) (wrap64 (x135_6 + 1)) t309 t308 t309 x312001_6 x312002_6 x312003_6 x312004_6 x312005_6 x312006_6))))) else (some (0, 0, (⟨#[]⟩ : ByteArray), (⟨#[]⟩ : ByteArray), 0, 0, 0, (⟨#[]⟩ : ByteArray), ([] : List Int)))))))) else (none)) = some (r1, r2, r3, r4, r5, r6, r7, r8, r9) := H
                       have A95 := Aside0.mk A950
                       clear A950
                       by_cases c96 : x135_6 < (t308.size : Int)
                       ·
                        rw [if_pos c96] at H
                        have c96b0 : decide (x135_6 < (t308.size : Int)) = true := decide_eq_true c96
                        clear c96
                        by_cases c98 : (bt t308 x135_6) = 80
                        ·
                         rw [if_pos c98] at H
                         have c98b0 : ((bt t308 x135_6) == 80) = true := beq_iff_eq.mpr c98
                         have c98b1 : ((bt t308 x135_6) != 80) = false := bne_eq_false_iff_eq.mpr c98
                         clear c98
                         have H' := Aside0.mk H
                         clear H
                         have p312 : 0 ≤ (x135_6 : Int) := of_decide_eq_true (by first | (with_reducible assumption) | assumption)
                         have q312 : x135_6 < (y296.length : Int) := of_decide_eq_true (by first | (with_reducible assumption) | assumption)
                         obtain ⟨ad312, e312, hx312_0⟩ := Kd.at_string (Kd.Q_reads' HO_133.out).2.2 x135_6 p312 q312
                         cases e312
                         replace p312 := eq_true p312
                         replace q312 := eq_true q312
                         go_wp2_with (first | (go_at_call 33; (with_reducible refine (impl_number.calls k6 (rdOf ByteArray.empty y296 x135_6) t313 t314 _ A95.out).mono ?_); rintro e w99 ⟨rfl, hb⟩; replace HO_133 := Aside0.mk (Kd.Q_below (by (with_reducible repeat (first | apply Kd.Q_alloc | apply Kd.Q_drewN | apply Kd.Q_drew)); exact HO_133.out) hb); replace BK290 := Aside0.mk (Rgn.bb BK290.out hb); replace BK310 := Aside0.mk (Rgn.bb BK310.out hb); replace BK311 := Aside0.mk (Rgn.bb BK311.out hb); replace HB := Aside0.mk (below_step (Rgn.bq HB.out) hb); (try clear hb); have hnb100 := NB310_290.out; have hnc100 := NB290_310.out; have hnb101 := NB310_311.out; have hnc101 := NB311_310.out; obtain ⟨hcz102_0, hcz102_1, hfz102_0, hfz102_1⟩ := Rgn.c2 BK310.out; have p97 : 0 ≤ (x135_6 : Int) := of_decide_eq_true (by first | (with_reducible assumption) | assumption); have q97 : x135_6 < (t308.size : Int) := of_decide_eq_true (by first | (with_reducible assumption) | assumption); have hx97 := bt_at t308 x135_6; replace p97 := eq_true p97; replace q97 := eq_true q97; have hnb103 := NB311_290.out; have hnc103 := NB290_311.out; obtain ⟨hcz104_0, hcz104_1, hcz104_2, hcz104_3, hcz104_4, hcz104_5, hcz104_6, hfz104_0, hfz104_1, hfz104_2, hfz104_3, hfz104_4, hfz104_5, hfz104_6⟩ := Rgn.cf7 BK311.out))
                         repeat (go_quiet (fail); try go_wp2_with (first | (go_at_call 33; (with_reducible refine (impl_number.calls k6 (rdOf ByteArray.empty y296 x135_6) t313 t314 _ A95.out).mono ?_); rintro e w99 ⟨rfl, hb⟩; replace HO_133 := Aside0.mk (Kd.Q_below (by (with_reducible repeat (first | apply Kd.Q_alloc | apply Kd.Q_drewN | apply Kd.Q_drew)); exact HO_133.out) hb); replace BK290 := Aside0.mk (Rgn.bb BK290.out hb); replace BK310 := Aside0.mk (Rgn.bb BK310.out hb); replace BK311 := Aside0.mk (Rgn.bb BK311.out hb); replace HB := Aside0.mk (below_step (Rgn.bq HB.out) hb); (try clear hb); have hnb100 := NB310_290.out; have hnc100 := NB290_310.out; have hnb101 := NB310_311.out; have hnc101 := NB311_310.out; obtain ⟨hcz102_0, hcz102_1, hfz102_0, hfz102_1⟩ := Rgn.c2 BK310.out; have p97 : 0 ≤ (x135_6 : Int) := of_decide_eq_true (by first | (with_reducible assumption) | assumption); have q97 : x135_6 < (t308.size : Int) := of_decide_eq_true (by first | (with_reducible assumption) | assumption); have hx97 := bt_at t308 x135_6; replace p97 := eq_true p97; replace q97 := eq_true q97; have hnb103 := NB311_290.out; have hnc103 := NB290_311.out; obtain ⟨hcz104_0, hcz104_1, hcz104_2, hcz104_3, hcz104_4, hcz104_5, hcz104_6, hfz104_0, hfz104_1, hfz104_2, hfz104_3, hfz104_4, hfz104_5, hfz104_6⟩ := Rgn.cf7 BK311.out)))
                         go_roundg k6
                         case measure => have := HJ1.out; have := HK2.out; have := HJ17.out; have := HJ26.out; have := HJ74.out; have := HK6.out; omega
                         case rel => exact ⟨(x17_6), (wrap64 (x135_6 + 1)), (x291000_6), (x291001_6), (x291002_6), (x291003_6), (x291004_6), (x291005_6), (x291006_6), (x291007_6), (rdOf ByteArray.empty y296 x135_6), (x312002_6), (x312003_6), (x312004_6), (x312005_6), (x312006_6), (by first | rfl | (simp; done) | (simp [*]; done)), (by first | rfl | (simp; done) | (simp [*]; done)), H', ⟨by have := HJ1.out; have := HK2.out; have := HJ17.out; have := HJ26.out; have := HJ74.out; have := HK6.out; omega⟩, ⟨by (with_reducible repeat (first | apply Kd.Q_alloc | apply Kd.Q_drewN | apply Kd.Q_drew)); exact Kd.Q_mono (Kd.Q_far (p := ⟨gb311, 1, none⟩) (Kd.Q_types HO_133.out BK311.out (by decide)) (fun _ hk => hk.2) (.string (rdOf ByteArray.empty y296 x135_6))) (fun _ hk => trivial)⟩, ⟨Rgn.kf BK290.out⟩, ⟨Rgn.kf BK310.out⟩, ⟨by (with_reducible repeat (first | refine blk_drewN ?_ _ | refine blk_drew ?_ | refine blk_alloc ?_ _)); refine blk_put (cs := #[.int .i64 t309, .string x312001_6, .string x312002_6, .int .i64 x312003_6, .int .i64 x312004_6, .int .i64 x312005_6, .string x312006_6]) ?_ 1 _ rfl; (with_reducible repeat (first | refine blk_drewN ?_ _ | refine blk_drew ?_ | refine blk_alloc ?_ _)); exact BK311.out⟩, ⟨Rgn.bq HB.out⟩⟩
                        ·
                         rw [if_neg c98] at H
                         have c98b0 : ((bt t308 x135_6) == 80) = false := beq_eq_false_iff_ne.mpr c98
                         have c98b1 : ((bt t308 x135_6) != 80) = true := bne_iff_ne.mpr c98
                         by_cases c105 : (bt t308 x135_6) = 81
                         ·
                          rw [if_pos c105] at H
                          have c105b0 : ((bt t308 x135_6) == 81) = true := beq_iff_eq.mpr c105
                          have c105b1 : ((bt t308 x135_6) != 81) = false := bne_eq_false_iff_eq.mpr c105
                          clear c105
                          have H' := Aside0.mk H
                          clear H
                          have p312 : 0 ≤ (x135_6 : Int) := of_decide_eq_true (by first | (with_reducible assumption) | assumption)
                          have q312 : x135_6 < (y296.length : Int) := of_decide_eq_true (by first | (with_reducible assumption) | assumption)
                          obtain ⟨ad312, e312, hx312_0⟩ := Kd.at_string (Kd.Q_reads' HO_133.out).2.2 x135_6 p312 q312
                          cases e312
                          replace p312 := eq_true p312
                          replace q312 := eq_true q312
                          go_wp2_with (first | (go_at_call 33; (with_reducible refine (impl_number.calls k6 (rdOf ByteArray.empty y296 x135_6) t313 t314 _ A95.out).mono ?_); rintro e w106 ⟨rfl, hb⟩; replace HO_133 := Aside0.mk (Kd.Q_below (by (with_reducible repeat (first | apply Kd.Q_alloc | apply Kd.Q_drewN | apply Kd.Q_drew)); exact HO_133.out) hb); replace BK290 := Aside0.mk (Rgn.bb BK290.out hb); replace BK310 := Aside0.mk (Rgn.bb BK310.out hb); replace BK311 := Aside0.mk (Rgn.bb BK311.out hb); replace HB := Aside0.mk (below_step (Rgn.bq HB.out) hb); (try clear hb); have hnb107 := NB310_290.out; have hnc107 := NB290_310.out; have hnb108 := NB310_311.out; have hnc108 := NB311_310.out; obtain ⟨hcz109_0, hcz109_1, hfz109_0, hfz109_1⟩ := Rgn.c2 BK310.out; have p97 : 0 ≤ (x135_6 : Int) := of_decide_eq_true (by first | (with_reducible assumption) | assumption); have q97 : x135_6 < (t308.size : Int) := of_decide_eq_true (by first | (with_reducible assumption) | assumption); have hx97 := bt_at t308 x135_6; replace p97 := eq_true p97; replace q97 := eq_true q97; have hnb110 := NB311_290.out; have hnc110 := NB290_311.out; obtain ⟨hcz111_0, hcz111_1, hcz111_2, hcz111_3, hcz111_4, hcz111_5, hcz111_6, hfz111_0, hfz111_1, hfz111_2, hfz111_3, hfz111_4, hfz111_5, hfz111_6⟩ := Rgn.cf7 BK311.out))
                          repeat (go_quiet (fail); try go_wp2_with (first | (go_at_call 33; (with_reducible refine (impl_number.calls k6 (rdOf ByteArray.empty y296 x135_6) t313 t314 _ A95.out).mono ?_); rintro e w106 ⟨rfl, hb⟩; replace HO_133 := Aside0.mk (Kd.Q_below (by (with_reducible repeat (first | apply Kd.Q_alloc | apply Kd.Q_drewN | apply Kd.Q_drew)); exact HO_133.out) hb); replace BK290 := Aside0.mk (Rgn.bb BK290.out hb); replace BK310 := Aside0.mk (Rgn.bb BK310.out hb); replace BK311 := Aside0.mk (Rgn.bb BK311.out hb); replace HB := Aside0.mk (below_step (Rgn.bq HB.out) hb); (try clear hb); have hnb107 := NB310_290.out; have hnc107 := NB290_310.out; have hnb108 := NB310_311.out; have hnc108 := NB311_310.out; obtain ⟨hcz109_0, hcz109_1, hfz109_0, hfz109_1⟩ := Rgn.c2 BK310.out; have p97 : 0 ≤ (x135_6 : Int) := of_decide_eq_true (by first | (with_reducible assumption) | assumption); have q97 : x135_6 < (t308.size : Int) := of_decide_eq_true (by first | (with_reducible assumption) | assumption); have hx97 := bt_at t308 x135_6; replace p97 := eq_true p97; replace q97 := eq_true q97; have hnb110 := NB311_290.out; have hnc110 := NB290_311.out; obtain ⟨hcz111_0, hcz111_1, hcz111_2, hcz111_3, hcz111_4, hcz111_5, hcz111_6, hfz111_0, hfz111_1, hfz111_2, hfz111_3, hfz111_4, hfz111_5, hfz111_6⟩ := Rgn.cf7 BK311.out)))
                          go_roundg k6
                          case measure => have := HJ1.out; have := HK2.out; have := HJ17.out; have := HJ26.out; have := HJ74.out; have := HK6.out; omega
                          case rel => exact ⟨(x17_6), (wrap64 (x135_6 + 1)), (x291000_6), (x291001_6), (x291002_6), (x291003_6), (x291004_6), (x291005_6), (x291006_6), (x291007_6), (x312001_6), (rdOf ByteArray.empty y296 x135_6), (x312003_6), (x312004_6), (x312005_6), (x312006_6), (by first | rfl | (simp; done) | (simp [*]; done)), (by first | rfl | (simp; done) | (simp [*]; done)), H', ⟨by have := HJ1.out; have := HK2.out; have := HJ17.out; have := HJ26.out; have := HJ74.out; have := HK6.out; omega⟩, ⟨by (with_reducible repeat (first | apply Kd.Q_alloc | apply Kd.Q_drewN | apply Kd.Q_drew)); exact Kd.Q_mono (Kd.Q_far (p := ⟨gb311, 2, none⟩) (Kd.Q_types HO_133.out BK311.out (by decide)) (fun _ hk => hk.2) (.string (rdOf ByteArray.empty y296 x135_6))) (fun _ hk => trivial)⟩, ⟨Rgn.kf BK290.out⟩, ⟨Rgn.kf BK310.out⟩, ⟨by (with_reducible repeat (first | refine blk_drewN ?_ _ | refine blk_drew ?_ | refine blk_alloc ?_ _)); refine blk_put (cs := #[.int .i64 t309, .string x312001_6, .string x312002_6, .int .i64 x312003_6, .int .i64 x312004_6, .int .i64 x312005_6, .string x312006_6]) ?_ 2 _ rfl; (with_reducible repeat (first | refine blk_drewN ?_ _ | refine blk_drew ?_ | refine blk_alloc ?_ _)); exact BK311.out⟩, ⟨Rgn.bq HB.out⟩⟩
                         ·
                          rw [if_neg c105] at H
                          have c105b0 : ((bt t308 x135_6) == 81) = false := beq_eq_false_iff_ne.mpr c105
                          have c105b1 : ((bt t308 x135_6) != 81) = true := bne_iff_ne.mpr c105
                          by_cases c112 : (bt t308 x135_6) = 68
                          ·
                           rw [if_pos c112] at H
                           have c112b0 : ((bt t308 x135_6) == 68) = true := beq_iff_eq.mpr c112
                           have c112b1 : ((bt t308 x135_6) != 68) = false := bne_eq_false_iff_eq.mpr c112
                           clear c112
                           replace H := Option.bind_eq_some_iff.mp H
                           obtain ⟨⟨t315, t316⟩, A1130, H⟩ := H
                           replace H : (if (!t315 && (t316.toList == ([] : List UInt8))) = true then (some (0, 0, (⟨#[]⟩ : ByteArray), (⟨#[]⟩ : ByteArray), 0, 0, 0, (⟨#[]⟩ : ByteArray), ([] : List Int))) else (impl_ParseLine.l2 k6 x17_6 y296 (y296.length : Int) (wrap64 (x135_6 + 1)) t309 t308 t309 x312001_6 x312002_6 x312003_6 x312004_6 x312005_6 t316)) = some (r1, r2, r3, r4, r5, r6, r7, r8, r9) := H
                           have A113 := Aside0.mk A1130
                           clear A1130
                           by_cases c114 : (!t315 && (t316.toList == ([] : List UInt8))) = true
                           ·
                            rw [if_pos c114] at H
                            have c114b0 : (!t315 && (t316.toList == ([] : List UInt8))) = true := c114
                            have c114b1 : (!t315 && t316.toList.isEmpty) = true := by rw [show t316.toList.isEmpty = (t316.toList == []) by cases t316.toList <;> rfl]; exact c114b0
                            clear c114
                            simp only [Option.some.injEq, Prod.mk.injEq] at H
                            obtain ⟨rfl, rfl, rfl, rfl, rfl, rfl, rfl, rfl, rfl⟩ := H
                            have p312 : 0 ≤ (x135_6 : Int) := of_decide_eq_true (by first | (with_reducible assumption) | assumption)
                            have q312 : x135_6 < (y296.length : Int) := of_decide_eq_true (by first | (with_reducible assumption) | assumption)
                            obtain ⟨ad312, e312, hx312_0⟩ := Kd.at_string (Kd.Q_reads' HO_133.out).2.2 x135_6 p312 q312
                            cases e312
                            replace p312 := eq_true p312
                            replace q312 := eq_true q312
                            go_wp2_with (first | (go_at_call 33; (with_reducible refine (impl_number.calls k6 (rdOf ByteArray.empty y296 x135_6) t313 t314 _ A95.out).mono ?_); rintro e w115 ⟨rfl, hb⟩; replace HO_133 := Aside0.mk (Kd.Q_below (by (with_reducible repeat (first | apply Kd.Q_alloc | apply Kd.Q_drewN | apply Kd.Q_drew)); exact HO_133.out) hb); replace BK290 := Aside0.mk (Rgn.bb BK290.out hb); replace BK310 := Aside0.mk (Rgn.bb BK310.out hb); replace BK311 := Aside0.mk (Rgn.bb BK311.out hb); replace HB := Aside0.mk (below_step (Rgn.bq HB.out) hb); (try clear hb); have hnb116 := NB310_290.out; have hnc116 := NB290_310.out; have hnb117 := NB310_311.out; have hnc117 := NB311_310.out; obtain ⟨hcz118_0, hcz118_1, hfz118_0, hfz118_1⟩ := Rgn.c2 BK310.out; have p97 : 0 ≤ (x135_6 : Int) := of_decide_eq_true (by first | (with_reducible assumption) | assumption); have q97 : x135_6 < (t308.size : Int) := of_decide_eq_true (by first | (with_reducible assumption) | assumption); have hx97 := bt_at t308 x135_6; replace p97 := eq_true p97; replace q97 := eq_true q97) | (go_at_call 34; (with_reducible refine (impl_Unquote.calls k6 (rdOf ByteArray.empty y296 x135_6) t315 t316 _ A113.out).mono ?_); rintro e w119 ⟨rfl, hb⟩; replace HO_133 := Aside0.mk (Kd.Q_below (by (with_reducible repeat (first | apply Kd.Q_alloc | apply Kd.Q_drewN | apply Kd.Q_drew)); exact HO_133.out) hb); replace BK290 := Aside0.mk (Rgn.bb BK290.out hb); replace BK310 := Aside0.mk (Rgn.bb BK310.out hb); replace BK311 := Aside0.mk (Rgn.bb BK311.out hb); replace HB := Aside0.mk (below_step (Rgn.bq HB.out) hb); (try clear hb)) | ((with_reducible refine gate_dst (N := 22) rfl ?_); (try (refine gate_guard (by rfl) ?_; dsimp only)); refine Rgn.bx 22 #[.bool false, .string (⟨#[]⟩ : ByteArray)] 77 ?_; intro gb317 hg w120 hbox hb; replace HO_133 := Aside0.mk (Kd.Q_below (by (with_reducible repeat (first | apply Kd.Q_alloc | apply Kd.Q_drewN | apply Kd.Q_drew)); exact HO_133.out) hb); have BK317 := Aside0.mk (hbox); have GW317 := Aside0.mk (Rgn.ge hg HB.out); have GE317 := Aside0.mk (Rgn.ge hg HB.out); replace HB := Aside0.mk (below_step (Rgn.bq HB.out) hb); have NB290_317 := Aside0.mk (Rgn.nl hg BK290.out); have NB317_290 := Aside0.mk (Rgn.ng hg BK290.out); replace BK290 := Aside0.mk (Rgn.bb BK290.out hb); have NB310_317 := Aside0.mk (Rgn.nl hg BK310.out); have NB317_310 := Aside0.mk (Rgn.ng hg BK310.out); replace BK310 := Aside0.mk (Rgn.bb BK310.out hb); have NB311_317 := Aside0.mk (Rgn.nl hg BK311.out); have NB317_311 := Aside0.mk (Rgn.ng hg BK311.out); replace BK311 := Aside0.mk (Rgn.bb BK311.out hb); clear hb hbox hg; have hnb121 := NB317_290.out; have hnc121 := NB290_317.out; have hnb122 := NB317_310.out; have hnc122 := NB310_317.out; have hnb123 := NB317_311.out; have hnc123 := NB311_317.out; obtain ⟨hcz124_0, hcz124_1, hfz124_0, hfz124_1⟩ := Rgn.c2 BK317.out; have hnb125 := NB290_311.out; have hnc125 := NB311_290.out; obtain ⟨hcz126_0, hcz126_1, hcz126_2, hcz126_3, hcz126_4, hcz126_5, hcz126_6, hcz126_7, hcz126_8, hfz126_0, hfz126_1, hfz126_2, hfz126_3, hfz126_4, hfz126_5, hfz126_6, hfz126_7, hfz126_8⟩ := Rgn.cf9 BK290.out))
                            repeat (go_quiet (fail); try go_wp2_with (first | (go_at_call 33; (with_reducible refine (impl_number.calls k6 (rdOf ByteArray.empty y296 x135_6) t313 t314 _ A95.out).mono ?_); rintro e w115 ⟨rfl, hb⟩; replace HO_133 := Aside0.mk (Kd.Q_below (by (with_reducible repeat (first | apply Kd.Q_alloc | apply Kd.Q_drewN | apply Kd.Q_drew)); exact HO_133.out) hb); replace BK290 := Aside0.mk (Rgn.bb BK290.out hb); replace BK310 := Aside0.mk (Rgn.bb BK310.out hb); replace BK311 := Aside0.mk (Rgn.bb BK311.out hb); replace HB := Aside0.mk (below_step (Rgn.bq HB.out) hb); (try clear hb); have hnb116 := NB310_290.out; have hnc116 := NB290_310.out; have hnb117 := NB310_311.out; have hnc117 := NB311_310.out; obtain ⟨hcz118_0, hcz118_1, hfz118_0, hfz118_1⟩ := Rgn.c2 BK310.out; have p97 : 0 ≤ (x135_6 : Int) := of_decide_eq_true (by first | (with_reducible assumption) | assumption); have q97 : x135_6 < (t308.size : Int) := of_decide_eq_true (by first | (with_reducible assumption) | assumption); have hx97 := bt_at t308 x135_6; replace p97 := eq_true p97; replace q97 := eq_true q97) | (go_at_call 34; (with_reducible refine (impl_Unquote.calls k6 (rdOf ByteArray.empty y296 x135_6) t315 t316 _ A113.out).mono ?_); rintro e w119 ⟨rfl, hb⟩; replace HO_133 := Aside0.mk (Kd.Q_below (by (with_reducible repeat (first | apply Kd.Q_alloc | apply Kd.Q_drewN | apply Kd.Q_drew)); exact HO_133.out) hb); replace BK290 := Aside0.mk (Rgn.bb BK290.out hb); replace BK310 := Aside0.mk (Rgn.bb BK310.out hb); replace BK311 := Aside0.mk (Rgn.bb BK311.out hb); replace HB := Aside0.mk (below_step (Rgn.bq HB.out) hb); (try clear hb)) | ((with_reducible refine gate_dst (N := 22) rfl ?_); (try (refine gate_guard (by rfl) ?_; dsimp only)); refine Rgn.bx 22 #[.bool false, .string (⟨#[]⟩ : ByteArray)] 77 ?_; intro gb317 hg w120 hbox hb; replace HO_133 := Aside0.mk (Kd.Q_below (by (with_reducible repeat (first | apply Kd.Q_alloc | apply Kd.Q_drewN | apply Kd.Q_drew)); exact HO_133.out) hb); have BK317 := Aside0.mk (hbox); have GW317 := Aside0.mk (Rgn.ge hg HB.out); have GE317 := Aside0.mk (Rgn.ge hg HB.out); replace HB := Aside0.mk (below_step (Rgn.bq HB.out) hb); have NB290_317 := Aside0.mk (Rgn.nl hg BK290.out); have NB317_290 := Aside0.mk (Rgn.ng hg BK290.out); replace BK290 := Aside0.mk (Rgn.bb BK290.out hb); have NB310_317 := Aside0.mk (Rgn.nl hg BK310.out); have NB317_310 := Aside0.mk (Rgn.ng hg BK310.out); replace BK310 := Aside0.mk (Rgn.bb BK310.out hb); have NB311_317 := Aside0.mk (Rgn.nl hg BK311.out); have NB317_311 := Aside0.mk (Rgn.ng hg BK311.out); replace BK311 := Aside0.mk (Rgn.bb BK311.out hb); clear hb hbox hg; have hnb121 := NB317_290.out; have hnc121 := NB290_317.out; have hnb122 := NB317_310.out; have hnc122 := NB310_317.out; have hnb123 := NB317_311.out; have hnc123 := NB311_317.out; obtain ⟨hcz124_0, hcz124_1, hfz124_0, hfz124_1⟩ := Rgn.c2 BK317.out; have hnb125 := NB290_311.out; have hnc125 := NB311_290.out; obtain ⟨hcz126_0, hcz126_1, hcz126_2, hcz126_3, hcz126_4, hcz126_5, hcz126_6, hcz126_7, hcz126_8, hfz126_0, hfz126_1, hfz126_2, hfz126_3, hfz126_4, hfz126_5, hfz126_6, hfz126_7, hfz126_8⟩ := Rgn.cf9 BK290.out)))
                            refine bodyPost_ret (results_cell_row rfl _ _ gb290 27 _ (0, 0) _ rfl (by exact Rgn.put9 (Rgn.kf BK290.out)) Tryd.underlying27 rfl (by kernel_rfl)) rfl ?_
                            exact ⟨_, by first | rfl | (simp [errW_none, errW_some] <;> rfl) | (simp [*, errW_none, errW_some] <;> rfl), by first | exact Kd.R_nil _ _ _ _ _ | exact Kd.N_nil _ _ _ _ _ | exact Kd.V_nil _ _ _ _ _ | exact Kd.Q_nil _ _ _ _ _ | exact Kd.S_nil _ _ _ _ _, Rgn.bq HB.out⟩
                           ·
                            rw [if_neg c114] at H
                            have c114b0 : (!t315 && (t316.toList == ([] : List UInt8))) = false := by simpa using c114
                            have c114b1 : (!t315 && t316.toList.isEmpty) = false := by rw [show t316.toList.isEmpty = (t316.toList == []) by cases t316.toList <;> rfl]; exact c114b0
                            clear c114
                            have H' := Aside0.mk H
                            clear H
                            have p312 : 0 ≤ (x135_6 : Int) := of_decide_eq_true (by first | (with_reducible assumption) | assumption)
                            have q312 : x135_6 < (y296.length : Int) := of_decide_eq_true (by first | (with_reducible assumption) | assumption)
                            obtain ⟨ad312, e312, hx312_0⟩ := Kd.at_string (Kd.Q_reads' HO_133.out).2.2 x135_6 p312 q312
                            cases e312
                            replace p312 := eq_true p312
                            replace q312 := eq_true q312
                            go_wp2_with (first | (go_at_call 33; (with_reducible refine (impl_number.calls k6 (rdOf ByteArray.empty y296 x135_6) t313 t314 _ A95.out).mono ?_); rintro e w127 ⟨rfl, hb⟩; replace HO_133 := Aside0.mk (Kd.Q_below (by (with_reducible repeat (first | apply Kd.Q_alloc | apply Kd.Q_drewN | apply Kd.Q_drew)); exact HO_133.out) hb); replace BK290 := Aside0.mk (Rgn.bb BK290.out hb); replace BK310 := Aside0.mk (Rgn.bb BK310.out hb); replace BK311 := Aside0.mk (Rgn.bb BK311.out hb); replace HB := Aside0.mk (below_step (Rgn.bq HB.out) hb); (try clear hb); have hnb128 := NB310_290.out; have hnc128 := NB290_310.out; have hnb129 := NB310_311.out; have hnc129 := NB311_310.out; obtain ⟨hcz130_0, hcz130_1, hfz130_0, hfz130_1⟩ := Rgn.c2 BK310.out; have p97 : 0 ≤ (x135_6 : Int) := of_decide_eq_true (by first | (with_reducible assumption) | assumption); have q97 : x135_6 < (t308.size : Int) := of_decide_eq_true (by first | (with_reducible assumption) | assumption); have hx97 := bt_at t308 x135_6; replace p97 := eq_true p97; replace q97 := eq_true q97) | (go_at_call 34; (with_reducible refine (impl_Unquote.calls k6 (rdOf ByteArray.empty y296 x135_6) t315 t316 _ A113.out).mono ?_); rintro e w131 ⟨rfl, hb⟩; replace HO_133 := Aside0.mk (Kd.Q_below (by (with_reducible repeat (first | apply Kd.Q_alloc | apply Kd.Q_drewN | apply Kd.Q_drew)); exact HO_133.out) hb); replace BK290 := Aside0.mk (Rgn.bb BK290.out hb); replace BK310 := Aside0.mk (Rgn.bb BK310.out hb); replace BK311 := Aside0.mk (Rgn.bb BK311.out hb); replace HB := Aside0.mk (below_step (Rgn.bq HB.out) hb); (try clear hb)) | ((with_reducible refine gate_dst (N := 22) rfl ?_); (try (refine gate_guard (by rfl) ?_; dsimp only)); refine Rgn.bx 22 #[.bool false, .string (⟨#[]⟩ : ByteArray)] 77 ?_; intro gb317 hg w132 hbox hb; replace HO_133 := Aside0.mk (Kd.Q_below (by (with_reducible repeat (first | apply Kd.Q_alloc | apply Kd.Q_drewN | apply Kd.Q_drew)); exact HO_133.out) hb); have BK317 := Aside0.mk (hbox); have GW317 := Aside0.mk (Rgn.ge hg HB.out); have GE317 := Aside0.mk (Rgn.ge hg HB.out); replace HB := Aside0.mk (below_step (Rgn.bq HB.out) hb); have NB290_317 := Aside0.mk (Rgn.nl hg BK290.out); have NB317_290 := Aside0.mk (Rgn.ng hg BK290.out); replace BK290 := Aside0.mk (Rgn.bb BK290.out hb); have NB310_317 := Aside0.mk (Rgn.nl hg BK310.out); have NB317_310 := Aside0.mk (Rgn.ng hg BK310.out); replace BK310 := Aside0.mk (Rgn.bb BK310.out hb); have NB311_317 := Aside0.mk (Rgn.nl hg BK311.out); have NB317_311 := Aside0.mk (Rgn.ng hg BK311.out); replace BK311 := Aside0.mk (Rgn.bb BK311.out hb); clear hb hbox hg; have hnb133 := NB317_290.out; have hnc133 := NB290_317.out; have hnb134 := NB317_310.out; have hnc134 := NB310_317.out; have hnb135 := NB317_311.out; have hnc135 := NB311_317.out; obtain ⟨hcz136_0, hcz136_1, hfz136_0, hfz136_1⟩ := Rgn.c2 BK317.out; have hnb137 := NB311_290.out; have hnc137 := NB290_311.out; obtain ⟨hcz138_0, hcz138_1, hcz138_2, hcz138_3, hcz138_4, hcz138_5, hcz138_6, hfz138_0, hfz138_1, hfz138_2, hfz138_3, hfz138_4, hfz138_5, hfz138_6⟩ := Rgn.cf7 BK311.out))
                            repeat (go_quiet (fail); try go_wp2_with (first | (go_at_call 33; (with_reducible refine (impl_number.calls k6 (rdOf ByteArray.empty y296 x135_6) t313 t314 _ A95.out).mono ?_); rintro e w127 ⟨rfl, hb⟩; replace HO_133 := Aside0.mk (Kd.Q_below (by (with_reducible repeat (first | apply Kd.Q_alloc | apply Kd.Q_drewN | apply Kd.Q_drew)); exact HO_133.out) hb); replace BK290 := Aside0.mk (Rgn.bb BK290.out hb); replace BK310 := Aside0.mk (Rgn.bb BK310.out hb); replace BK311 := Aside0.mk (Rgn.bb BK311.out hb); replace HB := Aside0.mk (below_step (Rgn.bq HB.out) hb); (try clear hb); have hnb128 := NB310_290.out; have hnc128 := NB290_310.out; have hnb129 := NB310_311.out; have hnc129 := NB311_310.out; obtain ⟨hcz130_0, hcz130_1, hfz130_0, hfz130_1⟩ := Rgn.c2 BK310.out; have p97 : 0 ≤ (x135_6 : Int) := of_decide_eq_true (by first | (with_reducible assumption) | assumption); have q97 : x135_6 < (t308.size : Int) := of_decide_eq_true (by first | (with_reducible assumption) | assumption); have hx97 := bt_at t308 x135_6; replace p97 := eq_true p97; replace q97 := eq_true q97) | (go_at_call 34; (with_reducible refine (impl_Unquote.calls k6 (rdOf ByteArray.empty y296 x135_6) t315 t316 _ A113.out).mono ?_); rintro e w131 ⟨rfl, hb⟩; replace HO_133 := Aside0.mk (Kd.Q_below (by (with_reducible repeat (first | apply Kd.Q_alloc | apply Kd.Q_drewN | apply Kd.Q_drew)); exact HO_133.out) hb); replace BK290 := Aside0.mk (Rgn.bb BK290.out hb); replace BK310 := Aside0.mk (Rgn.bb BK310.out hb); replace BK311 := Aside0.mk (Rgn.bb BK311.out hb); replace HB := Aside0.mk (below_step (Rgn.bq HB.out) hb); (try clear hb)) | ((with_reducible refine gate_dst (N := 22) rfl ?_); (try (refine gate_guard (by rfl) ?_; dsimp only)); refine Rgn.bx 22 #[.bool false, .string (⟨#[]⟩ : ByteArray)] 77 ?_; intro gb317 hg w132 hbox hb; replace HO_133 := Aside0.mk (Kd.Q_below (by (with_reducible repeat (first | apply Kd.Q_alloc | apply Kd.Q_drewN | apply Kd.Q_drew)); exact HO_133.out) hb); have BK317 := Aside0.mk (hbox); have GW317 := Aside0.mk (Rgn.ge hg HB.out); have GE317 := Aside0.mk (Rgn.ge hg HB.out); replace HB := Aside0.mk (below_step (Rgn.bq HB.out) hb); have NB290_317 := Aside0.mk (Rgn.nl hg BK290.out); have NB317_290 := Aside0.mk (Rgn.ng hg BK290.out); replace BK290 := Aside0.mk (Rgn.bb BK290.out hb); have NB310_317 := Aside0.mk (Rgn.nl hg BK310.out); have NB317_310 := Aside0.mk (Rgn.ng hg BK310.out); replace BK310 := Aside0.mk (Rgn.bb BK310.out hb); have NB311_317 := Aside0.mk (Rgn.nl hg BK311.out); have NB317_311 := Aside0.mk (Rgn.ng hg BK311.out); replace BK311 := Aside0.mk (Rgn.bb BK311.out hb); clear hb hbox hg; have hnb133 := NB317_290.out; have hnc133 := NB290_317.out; have hnb134 := NB317_310.out; have hnc134 := NB310_317.out; have hnb135 := NB317_311.out; have hnc135 := NB311_317.out; obtain ⟨hcz136_0, hcz136_1, hfz136_0, hfz136_1⟩ := Rgn.c2 BK317.out; have hnb137 := NB311_290.out; have hnc137 := NB290_311.out; obtain ⟨hcz138_0, hcz138_1, hcz138_2, hcz138_3, hcz138_4, hcz138_5, hcz138_6, hfz138_0, hfz138_1, hfz138_2, hfz138_3, hfz138_4, hfz138_5, hfz138_6⟩ := Rgn.cf7 BK311.out)))
                            go_roundg k6
                            case measure => have := HJ1.out; have := HK2.out; have := HJ17.out; have := HJ26.out; have := HJ74.out; have := HK6.out; omega
                            case rel => exact ⟨(x17_6), (wrap64 (x135_6 + 1)), (x291000_6), (x291001_6), (x291002_6), (x291003_6), (x291004_6), (x291005_6), (x291006_6), (x291007_6), (x312001_6), (x312002_6), (x312003_6), (x312004_6), (x312005_6), (t316), (by first | rfl | (simp; done) | (simp [*]; done)), (by first | rfl | (simp; done) | (simp [*]; done)), H', ⟨by have := HJ1.out; have := HK2.out; have := HJ17.out; have := HJ26.out; have := HJ74.out; have := HK6.out; omega⟩, ⟨by (with_reducible repeat (first | apply Kd.Q_alloc | apply Kd.Q_drewN | apply Kd.Q_drew)); exact Kd.Q_mono (Kd.Q_far (p := ⟨gb311, 6, none⟩) (Kd.Q_far (p := ⟨gb317, 1, none⟩) (Kd.Q_far (p := ⟨gb317, 0, none⟩) (Kd.Q_types (Kd.Q_types HO_133.out BK317.out (by decide)) BK311.out (by decide)) (fun _ hk => hk.1.2) (.bool t315)) (fun _ hk => hk.1.2) (.string t316)) (fun _ hk => hk.2) (.string t316)) (fun _ hk => trivial)⟩, ⟨Rgn.kf BK290.out⟩, ⟨Rgn.kf BK310.out⟩, ⟨by (with_reducible repeat (first | refine blk_drewN ?_ _ | refine blk_drew ?_ | refine blk_alloc ?_ _)); refine blk_put (cs := #[.int .i64 t309, .string x312001_6, .string x312002_6, .int .i64 x312003_6, .int .i64 x312004_6, .int .i64 x312005_6, .string x312006_6]) ?_ 6 _ rfl; (with_reducible repeat (first | refine blk_drewN ?_ _ | refine blk_drew ?_ | refine blk_alloc ?_ _)); refine blk_far ?_ NB311_317.out _; (with_reducible repeat (first | refine blk_drewN ?_ _ | refine blk_drew ?_ | refine blk_alloc ?_ _)); refine blk_far ?_ NB311_317.out _; (with_reducible repeat (first | refine blk_drewN ?_ _ | refine blk_drew ?_ | refine blk_alloc ?_ _)); exact BK311.out⟩, ⟨Rgn.bq HB.out⟩⟩
                          ·
                           rw [if_neg c112] at H
                           have c112b0 : ((bt t308 x135_6) == 68) = false := beq_eq_false_iff_ne.mpr c112
                           have c112b1 : ((bt t308 x135_6) != 68) = true := bne_iff_ne.mpr c112
                           by_cases c139 : (bt t308 x135_6) = 87
                           ·
                            rw [if_pos c139] at H
                            have c139b0 : ((bt t308 x135_6) == 87) = true := beq_iff_eq.mpr c139
                            have c139b1 : ((bt t308 x135_6) != 87) = false := bne_eq_false_iff_eq.mpr c139
                            clear c139
                            have HC140 := Aside0.mk H
                            clear H
                            have p312 : 0 ≤ (x135_6 : Int) := of_decide_eq_true (by first | (with_reducible assumption) | assumption)
                            have q312 : x135_6 < (y296.length : Int) := of_decide_eq_true (by first | (with_reducible assumption) | assumption)
                            obtain ⟨ad312, e312, hx312_0⟩ := Kd.at_string (Kd.Q_reads' HO_133.out).2.2 x135_6 p312 q312
                            cases e312
                            replace p312 := eq_true p312
                            replace q312 := eq_true q312
                            go_upto_region 73 with (first | (go_at_call 33; (with_reducible refine (impl_number.calls k6 (rdOf ByteArray.empty y296 x135_6) t313 t314 _ A95.out).mono ?_); rintro e w141 ⟨rfl, hb⟩; replace HO_133 := Aside0.mk (Kd.Q_below (by (with_reducible repeat (first | apply Kd.Q_alloc | apply Kd.Q_drewN | apply Kd.Q_drew)); exact HO_133.out) hb); replace BK290 := Aside0.mk (Rgn.bb BK290.out hb); replace BK310 := Aside0.mk (Rgn.bb BK310.out hb); replace BK311 := Aside0.mk (Rgn.bb BK311.out hb); replace HB := Aside0.mk (below_step (Rgn.bq HB.out) hb); (try clear hb); have hnb142 := NB310_290.out; have hnc142 := NB290_310.out; have hnb143 := NB310_311.out; have hnc143 := NB311_310.out; obtain ⟨hcz144_0, hcz144_1, hfz144_0, hfz144_1⟩ := Rgn.c2 BK310.out; have p97 : 0 ≤ (x135_6 : Int) := of_decide_eq_true (by first | (with_reducible assumption) | assumption); have q97 : x135_6 < (t308.size : Int) := of_decide_eq_true (by first | (with_reducible assumption) | assumption); have hx97 := bt_at t308 x135_6; replace p97 := eq_true p97; replace q97 := eq_true q97))
                            repeat (go_quiet (fail); go_upto_region 73 with (first | (go_at_call 33; (with_reducible refine (impl_number.calls k6 (rdOf ByteArray.empty y296 x135_6) t313 t314 _ A95.out).mono ?_); rintro e w141 ⟨rfl, hb⟩; replace HO_133 := Aside0.mk (Kd.Q_below (by (with_reducible repeat (first | apply Kd.Q_alloc | apply Kd.Q_drewN | apply Kd.Q_drew)); exact HO_133.out) hb); replace BK290 := Aside0.mk (Rgn.bb BK290.out hb); replace BK310 := Aside0.mk (Rgn.bb BK310.out hb); replace BK311 := Aside0.mk (Rgn.bb BK311.out hb); replace HB := Aside0.mk (below_step (Rgn.bq HB.out) hb); (try clear hb); have hnb142 := NB310_290.out; have hnc142 := NB290_310.out; have hnb143 := NB310_311.out; have hnc143 := NB311_310.out; obtain ⟨hcz144_0, hcz144_1, hfz144_0, hfz144_1⟩ := Rgn.c2 BK310.out; have p97 : 0 ≤ (x135_6 : Int) := of_decide_eq_true (by first | (with_reducible assumption) | assumption); have q97 : x135_6 < (t308.size : Int) := of_decide_eq_true (by first | (with_reducible assumption) | assumption); have hx97 := bt_at t308 x135_6; replace p97 := eq_true p97; replace q97 := eq_true q97)))
                            (try simp only [Act.put, List.setIfInBounds_toArray, List.set_cons_zero, List.set_cons_succ])
                            go_cut [208] from 208 to 209 (fun v208 wc => ∃ (kq : Nat) (x208_139 : Bool), v208 = .bool x208_139 ∧ Aside0 (impl_ParseLine.j8 kq x17_6 (rdOf ByteArray.empty y296 x135_6) y296 (y296.length : Int) x135_6 x208_139 t309 t308 t309 x312001_6 x312002_6 x312003_6 x312004_6 x312005_6 x312006_6 = some (r1, r2, r3, r4, r5, r6, r7, r8, r9)) ∧ Aside0 (kq ≤ k6) ∧ Aside0 (Kd.Q Kd.string 9 wc w.heap.size (fun _ => True) (.slice (some ad312) y296.length c19) y296) ∧ Aside0 (wc.heap[gb290]? = some (.cells #[.int .i64 x291000_6, .int .i64 x291001_6, .string x291002_6, .string x291003_6, .int .i64 x291004_6, .int .i64 x291005_6, .int .i64 x291006_6, .string x291007_6, (.slice none 0 0)] 27 (0, 0))) ∧ Aside0 (wc.heap[gb310]? = some (.cells #[.int .i64 t309, .string t308] 73 (0, 0))) ∧ Aside0 (wc.heap[gb311]? = some (.cells #[.int .i64 t309, .string x312001_6, .string x312002_6, .int .i64 x312003_6, .int .i64 x312004_6, .int .i64 x312005_6, .string x312006_6] 24 (0, 0))) ∧ Aside0 (Below w.heap.size w wc))
                            case first =>
                             have H := HC140.out
                             clear HC140
                             by_cases c145 : ((rdOf ByteArray.empty y296 x135_6).size : Int) = 1
                             ·
                              rw [if_pos c145] at H
                              have c145b0 : (((rdOf ByteArray.empty y296 x135_6).size : Int) == 1) = true := beq_iff_eq.mpr c145
                              have c145b1 : (((rdOf ByteArray.empty y296 x135_6).size : Int) != 1) = false := bne_eq_false_iff_eq.mpr c145
                              clear c145
                              (first | rw [c145b0] | (simp only [i64_w, i32_w]; rw [c145b0]) | skip)
                              by_cases c146 : 0 < ((rdOf ByteArray.empty y296 x135_6).size : Int)
                              ·
                               rw [if_pos c146] at H
                               have c146b0 : decide (0 < ((rdOf ByteArray.empty y296 x135_6).size : Int)) = true := decide_eq_true c146
                               have c146b1 : decide (0 < (rdOf ByteArray.empty y296 x135_6).size) = true := decide_eq_true (by omega)
                               clear c146
                               by_cases c148 : (bt (rdOf ByteArray.empty y296 x135_6) 0) < 97
                               ·
                                rw [if_pos c148] at H
                                have c148b0 : decide ((bt (rdOf ByteArray.empty y296 x135_6) 0) < 97) = true := decide_eq_true c148
                                clear c148
                                have H' := Aside0.mk H
                                clear H
                                have p147 : 0 ≤ (0 : Int) := (by omega)
                                have q147 : 0 < (rdOf ByteArray.empty y296 x135_6).size := (by have : (0 : Int) < ((rdOf ByteArray.empty y296 x135_6).size : Int) := of_decide_eq_true (by first | (with_reducible assumption) | assumption); omega)
                                have hx147 : ∀ h : 0 < (rdOf ByteArray.empty y296 x135_6).size, (((rdOf ByteArray.empty y296 x135_6)[0]'h).toNat : Int) = bt (rdOf ByteArray.empty y296 x135_6) 0 := bt_at (rdOf ByteArray.empty y296 x135_6) 0
                                clear p147
                                have qi147 : (0 < ((rdOf ByteArray.empty y296 x135_6).size : Int)) = True := eq_true (of_decide_eq_true (by first | (with_reducible assumption) | assumption))
                                replace q147 := eq_true q147
                                go_wp2
                                repeat (go_quiet (fail); try go_wp2)
                                go_meet
                                case rel => exact ⟨_, (true), (by first | rfl | (simp; done) | (simp [*]; done)), H', ⟨by have := HJ1.out; have := HK2.out; have := HJ17.out; have := HJ26.out; have := HJ74.out; have := HK6.out; first | omega | exact Nat.le_refl _⟩, ⟨by (with_reducible repeat (first | apply Kd.Q_alloc | apply Kd.Q_drewN | apply Kd.Q_drew)); exact HO_133.out⟩, ⟨Rgn.kb BK290.out⟩, ⟨Rgn.kb BK310.out⟩, ⟨Rgn.kb BK311.out⟩, ⟨Rgn.bq HB.out⟩⟩
                               ·
                                rw [if_neg c148] at H
                                have c148b0 : decide ((bt (rdOf ByteArray.empty y296 x135_6) 0) < 97) = false := decide_eq_false c148
                                clear c148
                                have H' := Aside0.mk H
                                clear H
                                have p147 : 0 ≤ (0 : Int) := (by omega)
                                have q147 : 0 < (rdOf ByteArray.empty y296 x135_6).size := (by have : (0 : Int) < ((rdOf ByteArray.empty y296 x135_6).size : Int) := of_decide_eq_true (by first | (with_reducible assumption) | assumption); omega)
                                have hx147 : ∀ h : 0 < (rdOf ByteArray.empty y296 x135_6).size, (((rdOf ByteArray.empty y296 x135_6)[0]'h).toNat : Int) = bt (rdOf ByteArray.empty y296 x135_6) 0 := bt_at (rdOf ByteArray.empty y296 x135_6) 0
                                clear p147
                                have qi147 : (0 < ((rdOf ByteArray.empty y296 x135_6).size : Int)) = True := eq_true (of_decide_eq_true (by first | (with_reducible assumption) | assumption))
                                replace q147 := eq_true q147
                                have p149 : 0 ≤ (0 : Int) := (by omega)
                                have q149 : 0 < (rdOf ByteArray.empty y296 x135_6).size := (by have : (0 : Int) < ((rdOf ByteArray.empty y296 x135_6).size : Int) := of_decide_eq_true (by first | (with_reducible assumption) | assumption); omega)
                                have hx149 : ∀ h : 0 < (rdOf ByteArray.empty y296 x135_6).size, (((rdOf ByteArray.empty y296 x135_6)[0]'h).toNat : Int) = bt (rdOf ByteArray.empty y296 x135_6) 0 := bt_at (rdOf ByteArray.empty y296 x135_6) 0
                                clear p149
                                have qi149 : (0 < ((rdOf ByteArray.empty y296 x135_6).size : Int)) = True := eq_true (of_decide_eq_true (by first | (with_reducible assumption) | assumption))
                                replace q149 := eq_true q149
                                go_wp2
                                repeat (go_quiet (fail); try go_wp2)
                                go_meet
                                case rel => exact ⟨_, (decide ((bt (rdOf ByteArray.empty y296 x135_6) 0) > 122)), (by first | rfl | (simp; done) | (simp [*]; done)), H', ⟨by have := HJ1.out; have := HK2.out; have := HJ17.out; have := HJ26.out; have := HJ74.out; have := HK6.out; first | omega | exact Nat.le_refl _⟩, ⟨by (with_reducible repeat (first | apply Kd.Q_alloc | apply Kd.Q_drewN | apply Kd.Q_drew)); exact HO_133.out⟩, ⟨Rgn.kb BK290.out⟩, ⟨Rgn.kb BK310.out⟩, ⟨Rgn.kb BK311.out⟩, ⟨Rgn.bq HB.out⟩⟩
                              ·
                               rw [if_neg c146] at H
                               exact absurd H (by simp)
                             ·
                              rw [if_neg c145] at H
                              have c145b0 : (((rdOf ByteArray.empty y296 x135_6).size : Int) == 1) = false := beq_eq_false_iff_ne.mpr c145
                              have c145b1 : (((rdOf ByteArray.empty y296 x135_6).size : Int) != 1) = true := bne_iff_ne.mpr c145
                              (first | rw [c145b0] | (simp only [i64_w, i32_w]; rw [c145b0]) | skip)
                              have H' := Aside0.mk H
                              clear H
                              go_wp2
                              repeat (go_quiet (fail); try go_wp2)
                              go_meet
                              case rel => exact ⟨_, (true), (by first | rfl | (simp; done) | (simp [*]; done)), H', ⟨by have := HJ1.out; have := HK2.out; have := HJ17.out; have := HJ26.out; have := HJ74.out; have := HK6.out; first | omega | exact Nat.le_refl _⟩, ⟨by (with_reducible repeat (first | apply Kd.Q_alloc | apply Kd.Q_drewN | apply Kd.Q_drew)); exact HO_133.out⟩, ⟨Rgn.kb BK290.out⟩, ⟨Rgn.kb BK310.out⟩, ⟨Rgn.kb BK311.out⟩, ⟨Rgn.bq HB.out⟩⟩
                            case rest =>
                             clear HC140
                             try clear c1
                             try clear c6
                             try clear c11
                             try clear c19
                             try clear q19
                             try clear c83
                             try clear c92
                             try clear c92b0
                             try clear c93
                             try clear c93b0
                             try clear c94
                             try clear c94b0
                             try clear c96
                             try clear c96b0
                             try clear p97
                             try clear q97
                             try clear hx97
                             try clear c98
                             try clear c98b0
                             try clear c98b1
                             try clear c105
                             try clear c105b0
                             try clear c105b1
                             try clear c112
                             try clear c112b0
                             try clear c112b1
                             try clear c139
                             try clear c139b0
                             try clear c139b1
                             try clear hcz144_0 hcz144_1
                             try clear hcz79_0 hcz79_1
                             try clear hcz87_0 hcz87_1
                             try clear hcz91_0 hcz91_1 hcz91_2 hcz91_3 hcz91_4 hcz91_5 hcz91_6
                             try clear hfz144_0 hfz144_1
                             try clear hfz79_0 hfz79_1
                             try clear hfz87_0 hfz87_1
                             try clear hfz91_0 hfz91_1 hfz91_2 hfz91_3 hfz91_4 hfz91_5 hfz91_6
                             try clear hx295_0
                             try clear hx312_0
                             try clear p295
                             try clear p312
                             try clear p97
                             try clear q19
                             try clear q295
                             try clear q312
                             try clear q97
                             obtain ⟨kq, x208_139, rfl, HA, HJ139, HO_133, BK290, BK310, BK311, HB⟩ := hcut
                             cases kq with
                             | zero => exact absurd HA.out (by simp [impl_ParseLine.j8])
                             | succ kj139 =>
                              have H := HA.out
                              clear HA
                              simp only [impl_ParseLine.j8] at H
                              by_cases c150 : x208_139 = true
                              ·
                               subst c150
                               replace H := Rgn.ip H
                               simp only [Option.some.injEq, Prod.mk.injEq] at H
                               obtain ⟨rfl, rfl, rfl, rfl, rfl, rfl, rfl, rfl, rfl⟩ := H
                               have hnb151 := NB290_310.out
                               have hnc151 := NB310_290.out
                               have hnb152 := NB290_311.out
                               have hnc152 := NB311_290.out
                               obtain ⟨hcz153_0, hcz153_1, hcz153_2, hcz153_3, hcz153_4, hcz153_5, hcz153_6, hcz153_7, hcz153_8, hfz153_0, hfz153_1, hfz153_2, hfz153_3, hfz153_4, hfz153_5, hfz153_6, hfz153_7, hfz153_8⟩ := Rgn.cf9 BK290.out
                               go_wp2
                               repeat (go_quiet (fail); try go_wp2)
                               refine bodyPost_ret (results_cell_row rfl _ _ gb290 27 _ (0, 0) _ rfl (by exact Rgn.put9 (Rgn.kf BK290.out)) Tryd.underlying27 rfl (by kernel_rfl)) rfl ?_
                               exact ⟨_, by first | rfl | (simp [errW_none, errW_some] <;> rfl) | (simp [*, errW_none, errW_some] <;> rfl), by first | exact Kd.R_nil _ _ _ _ _ | exact Kd.N_nil _ _ _ _ _ | exact Kd.V_nil _ _ _ _ _ | exact Kd.Q_nil _ _ _ _ _ | exact Kd.S_nil _ _ _ _ _, Rgn.bq HB.out⟩
                              ·
                               replace c150 := Bool.eq_false_iff.mpr c150
                               subst c150
                               replace H := Rgn.im H
                               by_cases c154 : 0 ≤ x17_6
                               ·
                                rw [if_pos c154] at H
                                have c154b0 := eq_true c154
                                have c154b1 : decide (0 ≤ x17_6) = true := decide_eq_true c154
                                clear c154
                                by_cases c155 : (x17_6 : Int).toNat ≤ 281474976710656
                                ·
                                 rw [if_pos c155] at H
                                 have c155b0 := eq_true c155
                                 have c155b1 : decide ((x17_6 : Int).toNat ≤ 281474976710656) = true := decide_eq_true c155
                                 clear c155
                                 obtain ⟨y318, hy318⟩ : ∃ y_ : List Int, y_ = (List.replicate (x17_6 : Int).toNat 0) := ⟨_, rfl⟩
                                 replace H : (impl_ParseLine.l3 kj139 x17_6 (rdOf ByteArray.empty y296 x135_6) y318 y296 (y296.length : Int) x135_6 (y318.length : Int) 0 t309 t308 t309 x312001_6 x312002_6 x312003_6 x312004_6 x312005_6 x312006_6) = some (r1, r2, r3, r4, r5, r6, r7, r8, r9) := by first | (rw [hy318]; with_reducible exact H) | (have H2_ := (Option.bind_some _ _).symm.trans H; rw [hy318]; with_reducible exact H2_) | (have H2_ := (Option.bind_some _ _).symm.trans H; with_reducible exact H2_) | with_reducible exact H | (rw [hy318]; exact H) | exact H
                                 have Ny318 := Aside0.mk hy318
                                 clear hy318
                                 have H' := Aside0.mk H
                                 clear H
                                 go_wp2_with (first | ((with_reducible refine gate_dst (N := 211) rfl ?_); (try (refine gate_guard (by rfl) ?_; dsimp only)); refine Kd.R_make (Kd.int .u8) _ 5 rfl (N := 211) rfl 22 _ _ rfl x17_6 rfl rfl Tryd.underlying22 (.int .u8 0) 1 info5 rfl (by decide) (by omega) 0 (ok := fun _ => True) (okp := fun _ => True) rfl (fun _ hk => hk) trivial (of_decide_eq_true (by first | (with_reducible assumption) | assumption)) (Nat.le_trans (Nat.mul_le_mul_right _ (of_decide_eq_true (by first | (with_reducible assumption) | assumption) : x17_6.toNat ≤ 281474976710656)) (by omega)) (Below.refl _ _) (Nat.le_refl _) ?_; intro v319 w156 ho157 hb hg_ hnew_; clear hg_ hnew_; (first | rw [← Ny318.out] at ho157 | (simp only [Int.reduceToNat] at ho157; rw [← Ny318.out] at ho157)); replace HO_133 := Aside0.mk (Kd.Q_below (by (with_reducible repeat (first | apply Kd.Q_alloc | apply Kd.Q_drewN | apply Kd.Q_drew)); exact HO_133.out) hb); have HO320 := Aside0.mk (Kd.R_lower ho157 (below_size (Rgn.bq HB.out))); replace BK290 := Aside0.mk (Rgn.bb BK290.out hb); replace BK310 := Aside0.mk (Rgn.bb BK310.out hb); replace BK311 := Aside0.mk (Rgn.bb BK311.out hb); replace HB := Aside0.mk (below_step (Rgn.bq HB.out) hb); clear hb ho157; obtain ⟨Ao158, co158, eo158⟩ := Kd.R_slice HO320.out; subst eo158))
                                 repeat (go_quiet (fail); try go_wp2_with (first | ((with_reducible refine gate_dst (N := 211) rfl ?_); (try (refine gate_guard (by rfl) ?_; dsimp only)); refine Kd.R_make (Kd.int .u8) _ 5 rfl (N := 211) rfl 22 _ _ rfl x17_6 rfl rfl Tryd.underlying22 (.int .u8 0) 1 info5 rfl (by decide) (by omega) 0 (ok := fun _ => True) (okp := fun _ => True) rfl (fun _ hk => hk) trivial (of_decide_eq_true (by first | (with_reducible assumption) | assumption)) (Nat.le_trans (Nat.mul_le_mul_right _ (of_decide_eq_true (by first | (with_reducible assumption) | assumption) : x17_6.toNat ≤ 281474976710656)) (by omega)) (Below.refl _ _) (Nat.le_refl _) ?_; intro v319 w156 ho157 hb hg_ hnew_; clear hg_ hnew_; (first | rw [← Ny318.out] at ho157 | (simp only [Int.reduceToNat] at ho157; rw [← Ny318.out] at ho157)); replace HO_133 := Aside0.mk (Kd.Q_below (by (with_reducible repeat (first | apply Kd.Q_alloc | apply Kd.Q_drewN | apply Kd.Q_drew)); exact HO_133.out) hb); have HO320 := Aside0.mk (Kd.R_lower ho157 (below_size (Rgn.bq HB.out))); replace BK290 := Aside0.mk (Rgn.bb BK290.out hb); replace BK310 := Aside0.mk (Rgn.bb BK310.out hb); replace BK311 := Aside0.mk (Rgn.bb BK311.out hb); replace HB := Aside0.mk (below_step (Rgn.bq HB.out) hb); clear hb ho157; obtain ⟨Ao158, co158, eo158⟩ := Kd.R_slice HO320.out; subst eo158)))
                                 go_loopg [214] kj139 (fun kq v214 w' => ∃ (x23_8 : List Int) (x214_8 : Int), v214 = .int .i64 x214_8 ∧ Aside0 (impl_ParseLine.l3 kq x17_6 (rdOf ByteArray.empty y296 x135_6) x23_8 y296 (y296.length : Int) x135_6 (y318.length : Int) x214_8 t309 t308 t309 x312001_6 x312002_6 x312003_6 x312004_6 x312005_6 x312006_6 = some (r1, r2, r3, r4, r5, r6, r7, r8, r9)) ∧ Aside0 (kq ≤ kj139) ∧ Aside0 (Kd.R (Kd.int .u8) 5 w' w.heap.size (fun _ => True) (.slice Ao158 y318.length co158) x23_8) ∧ Aside0 (Kd.Q Kd.string 9 w' w.heap.size (fun _ => True) (.slice (some ad312) y296.length c19) y296) ∧ Aside0 (w'.heap[gb290]? = some (.cells #[.int .i64 x291000_6, .int .i64 x291001_6, .string x291002_6, .string x291003_6, .int .i64 x291004_6, .int .i64 x291005_6, .int .i64 x291006_6, .string x291007_6, (.slice none 0 0)] 27 (0, 0))) ∧ Aside0 (w'.heap[gb310]? = some (.cells #[.int .i64 t309, .string t308] 73 (0, 0))) ∧ Aside0 (w'.heap[gb311]? = some (.cells #[.int .i64 t309, .string x312001_6, .string x312002_6, .int .i64 x312003_6, .int .i64 x312004_6, .int .i64 x312005_6, .string x312006_6] 24 (0, 0))) ∧ Aside0 (Below w.heap.size w w'))
                                 case atStart => exact ⟨(y318), (0), (by first | rfl | (simp; done) | (simp [*]; done)), H', ⟨Nat.le_refl _⟩, ⟨Rgn.rq HO320.out⟩, ⟨by (with_reducible repeat (first | apply Kd.Q_alloc | apply Kd.Q_drewN | apply Kd.Q_drew)); exact HO_133.out⟩, ⟨Rgn.kb BK290.out⟩, ⟨Rgn.kb BK310.out⟩, ⟨Rgn.kb BK311.out⟩, ⟨Rgn.bq HB.out⟩⟩
                                 case round =>
                                  clear H'
                                  try clear c1
                                  try clear c11
                                  try clear c19
                                  try clear q19
                                  try clear c92
                                  try clear c92b0
                                  try clear c93
                                  try clear c93b0
                                  try clear c94
                                  try clear c94b0
                                  try clear c96
                                  try clear c96b0
                                  try clear p97
                                  try clear q97
                                  try clear hx97
                                  try clear c98
                                  try clear c98b0
                                  try clear c98b1
                                  try clear c105
                                  try clear c105b0
                                  try clear c105b1
                                  try clear c112
                                  try clear c112b0
                                  try clear c112b1
                                  try clear c139
                                  try clear c139b0
                                  try clear c139b1
                                  try clear c150
                                  try clear c154
                                  try clear c154b0
                                  try clear c154b1
                                  try clear c155
                                  try clear c155b0
                                  try clear c155b1
                                  try clear hcz144_0 hcz144_1
                                  try clear hcz79_0 hcz79_1
                                  try clear hcz87_0 hcz87_1
                                  try clear hcz91_0 hcz91_1 hcz91_2 hcz91_3 hcz91_4 hcz91_5 hcz91_6
                                  try clear hfz144_0 hfz144_1
                                  try clear hfz79_0 hfz79_1
                                  try clear hfz87_0 hfz87_1
                                  try clear hfz91_0 hfz91_1 hfz91_2 hfz91_3 hfz91_4 hfz91_5 hfz91_6
                                  try clear hx295_0
                                  try clear hx312_0
                                  try clear p295
                                  try clear p312
                                  try clear p97
                                  try clear q19
                                  try clear q295
                                  try clear q312
                                  try clear q97
                                  obtain ⟨x23_8, x214_8, rfl, HA, HK8, HO_23, HO_133, BK290, BK310, BK311, HB⟩ := hrel
                                  have hl23_8 := (Kd.R_reads' HO_23.out).1
                                  rw [hl23_8] at HO_23
                                  (try simp only [hl23_8])
                                  (try simp only [hl23_8] at BK290)
                                  (try simp only [hl23_8] at BK310)
                                  (try simp only [hl23_8] at BK311)
                                  (try simp only [hl23_8] at HO_133)
                                  cases gk with
                                  | zero => exact absurd HA.out (by simp [impl_ParseLine.l3])
                                  | succ k8 =>
                                   have H := HA.out
                                   clear HA
                                   simp only [impl_ParseLine.l3] at H
                                   by_cases c159 : x214_8 < (y318.length : Int)
                                   ·
                                    rw [if_pos c159] at H
                                    have c159b0 : decide (x214_8 < (y318.length : Int)) = true := decide_eq_true c159
                                    have c159b2 : decide (x214_8 < (x23_8.length : Int)) = true := by rw [← hl23_8]; exact c159b0
                                    clear c159
                                    by_cases c160 : 0 < ((rdOf ByteArray.empty y296 x135_6).size : Int)
                                    ·
                                     rw [if_pos c160] at H
                                     have c160b0 : decide (0 < ((rdOf ByteArray.empty y296 x135_6).size : Int)) = true := decide_eq_true c160
                                     have c160b1 : decide (0 < (rdOf ByteArray.empty y296 x135_6).size) = true := decide_eq_true (by omega)
                                     clear c160
                                     by_cases c162 : 0 ≤ x214_8
                                     ·
                                      rw [if_pos c162] at H
                                      have c162b0 : decide (0 ≤ x214_8) = true := decide_eq_true c162
                                      clear c162
                                      by_cases c163 : x214_8 < (x23_8.length : Int)
                                      ·
                                       rw [if_pos c163] at H
                                       have c163b0 : decide (x214_8 < (x23_8.length : Int)) = true := decide_eq_true c163
                                       clear c163
                                       obtain ⟨y321, hy321⟩ : ∃ y_ : List Int, y_ = (x23_8.set (x214_8 : Int).toNat ((97 + ((Int.tmod (wrap64 ((((bt (rdOf ByteArray.empty y296 x135_6) 0) - 97) % 256) + x214_8)) 26) % 256)) % 256)) := ⟨_, rfl⟩
                                       replace H : (impl_ParseLine.l3 k8 x17_6 (rdOf ByteArray.empty y296 x135_6) y321 y296 (y296.length : Int) x135_6 (y318.length : Int) (wrap64 (x214_8 + 1)) t309 t308 t309 x312001_6 x312002_6 x312003_6 x312004_6 x312005_6 x312006_6) = some (r1, r2, r3, r4, r5, r6, r7, r8, r9) := by first | (rw [hy321]; with_reducible exact H) | (have H2_ := (Option.bind_some _ _).symm.trans H; rw [hy321]; with_reducible exact H2_) | (have H2_ := (Option.bind_some _ _).symm.trans H; with_reducible exact H2_) | with_reducible exact H | (rw [hy321]; exact H) | exact H
                                       have Ny321 := Aside0.mk hy321
                                       clear hy321
                                       have H' := Aside0.mk H
                                       clear H
                                       have p161 : 0 ≤ (0 : Int) := (by omega)
                                       have q161 : 0 < (rdOf ByteArray.empty y296 x135_6).size := (by have : (0 : Int) < ((rdOf ByteArray.empty y296 x135_6).size : Int) := of_decide_eq_true (by first | (with_reducible assumption) | assumption); omega)
                                       have hx161 : ∀ h : 0 < (rdOf ByteArray.empty y296 x135_6).size, (((rdOf ByteArray.empty y296 x135_6)[0]'h).toNat : Int) = bt (rdOf ByteArray.empty y296 x135_6) 0 := bt_at (rdOf ByteArray.empty y296 x135_6) 0
                                       clear p161
                                       have qi161 : (0 < ((rdOf ByteArray.empty y296 x135_6).size : Int)) = True := eq_true (of_decide_eq_true (by first | (with_reducible assumption) | assumption))
                                       replace q161 := eq_true q161
                                       have p164 : 0 ≤ (x214_8 : Int) := of_decide_eq_true (by first | (with_reducible assumption) | assumption)
                                       have q164 : (x214_8 : Int) < ((x23_8.length : Int) : Int) := of_decide_eq_true (by first | (with_reducible assumption) | assumption)
                                       obtain ⟨go164, co164, eo164, gb164, gl164, cl164, HG164⟩ := Kd.R_form HO_23.out (by omega)
                                       (first | cases eo164 | (injection eo164 with ea_ en_ ec_; (first | subst ea_ | (injection ea_ with ea_; subst ea_)); subst ec_; clear en_))
                                       have GB164 := Aside0.mk gb164
                                       have GG164 := Aside0.mk HG164
                                       clear gb164 gl164 HG164
                                       obtain ⟨hx164_0, hf164_0⟩ := Kd.R_celln 0 HO_23.out (x214_8 : Int) p164 q164
                                       replace p164 := eq_true p164
                                       replace q164 := eq_true q164
                                       have HP165 := Kd.R_putg HO_23.out (x214_8 : Int) ((97 + ((Int.tmod (wrap64 ((((bt (rdOf ByteArray.empty y296 x135_6) 0) - 97) % 256) + x214_8)) 26) % 256)) % 256)
                                       go_wp2_with (first | ((with_reducible refine gate_store (t := 5) (p := 228) rfl ?_); (try (rw [drewN_self wr]; generalize hq_ : World.drewN wr _ = wr; replace HO_23 := Aside0.mk (Kd.R_at hq_ HO_23.out); replace HO_133 := Aside0.mk (Kd.Q_at hq_ HO_133.out); replace BK290 := Aside0.mk (blk_at hq_ BK290.out); replace BK310 := Aside0.mk (blk_at hq_ BK310.out); replace BK311 := Aside0.mk (blk_at hq_ BK311.out); replace HB := Aside0.mk (below_at hq_ HB.out); clear hq_; (try (have HP165 := Kd.R_putg HO_23.out (x214_8 : Int) ((97 + ((Int.tmod (wrap64 ((((bt (rdOf ByteArray.empty y296 x135_6) 0) - 97) % 256) + x214_8)) 26) % 256)) % 256))))); refine store_event (t := 5) (p := 228) (v := ?vo_w166) (w1 := (wr.setCell ⟨go164, (x214_8 : Int).toNat, none⟩ (.int .u8 ((97 + ((Int.tmod (wrap64 ((((bt (rdOf ByteArray.empty y296 x135_6) 0) - 97) % 256) + x214_8)) 26) % 256)) % 256)))) ?hg ?ho ?hn ?hr ?_; (case ho => rfl); (case hg => rfl); (case hn => rfl); (case hr => first | (go_simp; done) | (go_simp; rfl)); intro w166 hw; have hg : wr.grownBy w166 (some go164) := (by rw [hw]; exact HP165.2); have hp_ : Kd.R (Kd.int .u8) 5 w166 w.heap.size (fun _ => True) (.slice (some ⟨go164, 0, none⟩) x23_8.length co158) y321 := (by rw [hw, Ny321.out]; exact HP165.1); clear HP165; replace HO_133 := Aside0.mk (Kd.Q_over' (v := (.slice (some ⟨go164, 0, none⟩) x23_8.length co158)) (by (with_reducible repeat (first | apply Kd.Q_alloc | apply Kd.Q_drewN | apply Kd.Q_drew)); exact HO_133.out) (Kd.R_typed HO_23.out) (by decide) hg); replace BK290 := Aside0.mk (Rgn.bg BK290.out hg (Kd.R_ne HO_23.out BK290.out (by decide))); replace BK310 := Aside0.mk (Rgn.bg BK310.out hg (Kd.R_ne HO_23.out BK310.out (by decide))); replace BK311 := Aside0.mk (Rgn.bg BK311.out hg (Kd.R_ne HO_23.out BK311.out (by decide))); replace HO_23 := Aside0.mk (hp_); replace HB := Aside0.mk ((by rw [hw]; exact below_set (HB.out) GB164.out : Below w.heap.size w w166)); clear hg hw hp_))
                                       repeat (go_quiet (fail); try go_wp2_with (first | ((with_reducible refine gate_store (t := 5) (p := 228) rfl ?_); (try (rw [drewN_self wr]; generalize hq_ : World.drewN wr _ = wr; replace HO_23 := Aside0.mk (Kd.R_at hq_ HO_23.out); replace HO_133 := Aside0.mk (Kd.Q_at hq_ HO_133.out); replace BK290 := Aside0.mk (blk_at hq_ BK290.out); replace BK310 := Aside0.mk (blk_at hq_ BK310.out); replace BK311 := Aside0.mk (blk_at hq_ BK311.out); replace HB := Aside0.mk (below_at hq_ HB.out); clear hq_; (try (have HP165 := Kd.R_putg HO_23.out (x214_8 : Int) ((97 + ((Int.tmod (wrap64 ((((bt (rdOf ByteArray.empty y296 x135_6) 0) - 97) % 256) + x214_8)) 26) % 256)) % 256))))); refine store_event (t := 5) (p := 228) (v := ?vo_w166) (w1 := (wr.setCell ⟨go164, (x214_8 : Int).toNat, none⟩ (.int .u8 ((97 + ((Int.tmod (wrap64 ((((bt (rdOf ByteArray.empty y296 x135_6) 0) - 97) % 256) + x214_8)) 26) % 256)) % 256)))) ?hg ?ho ?hn ?hr ?_; (case ho => rfl); (case hg => rfl); (case hn => rfl); (case hr => first | (go_simp; done) | (go_simp; rfl)); intro w166 hw; have hg : wr.grownBy w166 (some go164) := (by rw [hw]; exact HP165.2); have hp_ : Kd.R (Kd.int .u8) 5 w166 w.heap.size (fun _ => True) (.slice (some ⟨go164, 0, none⟩) x23_8.length co158) y321 := (by rw [hw, Ny321.out]; exact HP165.1); clear HP165; replace HO_133 := Aside0.mk (Kd.Q_over' (v := (.slice (some ⟨go164, 0, none⟩) x23_8.length co158)) (by (with_reducible repeat (first | apply Kd.Q_alloc | apply Kd.Q_drewN | apply Kd.Q_drew)); exact HO_133.out) (Kd.R_typed HO_23.out) (by decide) hg); replace BK290 := Aside0.mk (Rgn.bg BK290.out hg (Kd.R_ne HO_23.out BK290.out (by decide))); replace BK310 := Aside0.mk (Rgn.bg BK310.out hg (Kd.R_ne HO_23.out BK310.out (by decide))); replace BK311 := Aside0.mk (Rgn.bg BK311.out hg (Kd.R_ne HO_23.out BK311.out (by decide))); replace HO_23 := Aside0.mk (hp_); replace HB := Aside0.mk ((by rw [hw]; exact below_set (HB.out) GB164.out : Below w.heap.size w w166)); clear hg hw hp_)))
                                       (try simp only [← hl23_8])
                                       go_roundg k8
                                       case measure => have := HJ1.out; have := HK2.out; have := HJ17.out; have := HJ26.out; have := HJ74.out; have := HK6.out; have := HJ139.out; have := HK8.out; omega
                                       case rel => exact ⟨(y321), (wrap64 (x214_8 + 1)), (by first | rfl | (simp; done) | (simp [*]; done)), H', ⟨by have := HJ1.out; have := HK2.out; have := HJ17.out; have := HJ26.out; have := HJ74.out; have := HK6.out; have := HJ139.out; have := HK8.out; omega⟩, ⟨by (try simp only [hl23_8]); (with_reducible repeat (first | apply Kd.R_alloc | apply Kd.R_drewN | apply Kd.R_drew)); exact HO_23.out⟩, ⟨by (try simp only [hl23_8]); (with_reducible repeat (first | apply Kd.Q_alloc | apply Kd.Q_drewN | apply Kd.Q_drew)); exact HO_133.out⟩, ⟨by (try simp only [hl23_8]); (with_reducible repeat (first | refine blk_drewN ?_ _ | refine blk_drew ?_ | refine blk_alloc ?_ _)); exact BK290.out⟩, ⟨by (try simp only [hl23_8]); (with_reducible repeat (first | refine blk_drewN ?_ _ | refine blk_drew ?_ | refine blk_alloc ?_ _)); exact BK310.out⟩, ⟨by (try simp only [hl23_8]); (with_reducible repeat (first | refine blk_drewN ?_ _ | refine blk_drew ?_ | refine blk_alloc ?_ _)); exact BK311.out⟩, ⟨Rgn.bq HB.out⟩⟩
                                      ·
                                       rw [if_neg c163] at H
                                       exact absurd H (by simp)
                                     ·
                                      rw [if_neg c162] at H
                                      exact absurd H (by simp)
                                    ·
                                     rw [if_neg c160] at H
                                     exact absurd H (by simp)
                                   ·
                                    rw [if_neg c159] at H
                                    have c159b0 : decide (x214_8 < (y318.length : Int)) = false := decide_eq_false c159
                                    have c159b2 : decide (x214_8 < (x23_8.length : Int)) = false := by rw [← hl23_8]; exact c159b0
                                    clear c159
                                    have H' := Aside0.mk H
                                    clear H
                                    have hcv167 := own_string (P := Tryd.prog) Tryd.underlying22 Tryd.underlying5 Tryd.underlying9 (Kd.own_of_R HO_23.out)
                                    have hnb168 := NB311_290.out
                                    have hnc168 := NB290_311.out
                                    have hnb169 := NB311_310.out
                                    have hnc169 := NB310_311.out
                                    obtain ⟨hcz170_0, hcz170_1, hcz170_2, hcz170_3, hcz170_4, hcz170_5, hcz170_6, hfz170_0, hfz170_1, hfz170_2, hfz170_3, hfz170_4, hfz170_5, hfz170_6⟩ := Rgn.cf7 BK311.out
                                    go_wp2
                                    repeat (go_quiet (fail); try go_wp2)
                                    (try simp only [← hl23_8])
                                    go_roundg k8
                                    case measure => have := HJ1.out; have := HK2.out; have := HJ17.out; have := HJ26.out; have := HJ74.out; have := HK6.out; have := HJ139.out; have := HK8.out; omega
                                    case rel => exact ⟨(x17_6), (wrap64 (x135_6 + 1)), (x291000_6), (x291001_6), (x291002_6), (x291003_6), (x291004_6), (x291005_6), (x291006_6), (x291007_6), (x312001_6), (x312002_6), (x312003_6), (x312004_6), (x312005_6), (strOfNums x23_8), (by first | rfl | (simp; done) | (simp [*]; done)), (by first | rfl | (simp; done) | (simp [*]; done)), H', ⟨by have := HJ1.out; have := HK2.out; have := HJ17.out; have := HJ26.out; have := HJ74.out; have := HK6.out; have := HJ139.out; have := HK8.out; omega⟩, ⟨by (try simp only [hl23_8]); (with_reducible repeat (first | apply Kd.Q_alloc | apply Kd.Q_drewN | apply Kd.Q_drew)); exact Kd.Q_mono (Kd.Q_far (p := ⟨gb311, 6, none⟩) (Kd.Q_types HO_133.out BK311.out (by decide)) (fun _ hk => hk.2) (.string (strOfNums x23_8))) (fun _ hk => trivial)⟩, ⟨by (try simp only [hl23_8]); (with_reducible repeat (first | refine blk_drewN ?_ _ | refine blk_drew ?_ | refine blk_alloc ?_ _)); refine blk_far ?_ NB290_311.out _; (with_reducible repeat (first | refine blk_drewN ?_ _ | refine blk_drew ?_ | refine blk_alloc ?_ _)); exact BK290.out⟩, ⟨by (try simp only [hl23_8]); (with_reducible repeat (first | refine blk_drewN ?_ _ | refine blk_drew ?_ | refine blk_alloc ?_ _)); refine blk_far ?_ NB310_311.out _; (with_reducible repeat (first | refine blk_drewN ?_ _ | refine blk_drew ?_ | refine blk_alloc ?_ _)); exact BK310.out⟩, ⟨by (try simp only [hl23_8]); (with_reducible repeat (first | refine blk_drewN ?_ _ | refine blk_drew ?_ | refine blk_alloc ?_ _)); refine blk_put (cs := #[.int .i64 t309, .string x312001_6, .string x312002_6, .int .i64 x312003_6, .int .i64 x312004_6, .int .i64 x312005_6, .string x312006_6]) ?_ 6 _ rfl; (with_reducible repeat (first | refine blk_drewN ?_ _ | refine blk_drew ?_ | refine blk_alloc ?_ _)); exact BK311.out⟩, ⟨Rgn.bq HB.out⟩⟩
                                ·
                                 rw [if_neg c155] at H
                                 exact absurd H (by simp)
                               ·
                                rw [if_neg c154] at H
                                exact absurd H (by simp)
                           ·
                            rw [if_neg c139] at H
                            have c139b0 : ((bt t308 x135_6) == 87) = false := beq_eq_false_iff_ne.mpr c139
                            have c139b1 : ((bt t308 x135_6) != 87) = true := bne_iff_ne.mpr c139
                            by_cases c171 : t314 = true
                            ·
                             subst c171
                             replace H := Rgn.ip H
                             by_cases c173 : (bt t308 x135_6) = 78
                             ·
                              rw [if_pos c173] at H
                              have c173b0 : ((bt t308 x135_6) == 78) = true := beq_iff_eq.mpr c173
                              have c173b1 : ((bt t308 x135_6) != 78) = false := bne_eq_false_iff_eq.mpr c173
                              clear c173
                              have H' := Aside0.mk H
                              clear H
                              have p312 : 0 ≤ (x135_6 : Int) := of_decide_eq_true (by first | (with_reducible assumption) | assumption)
                              have q312 : x135_6 < (y296.length : Int) := of_decide_eq_true (by first | (with_reducible assumption) | assumption)
                              obtain ⟨ad312, e312, hx312_0⟩ := Kd.at_string (Kd.Q_reads' HO_133.out).2.2 x135_6 p312 q312
                              cases e312
                              replace p312 := eq_true p312
                              replace q312 := eq_true q312
                              go_wp2_with (first | (go_at_call 33; (with_reducible refine (impl_number.calls k6 (rdOf ByteArray.empty y296 x135_6) t313 true _ A95.out).mono ?_); rintro e w174 ⟨rfl, hb⟩; replace HO_133 := Aside0.mk (Kd.Q_below (by (with_reducible repeat (first | apply Kd.Q_alloc | apply Kd.Q_drewN | apply Kd.Q_drew)); exact HO_133.out) hb); replace BK290 := Aside0.mk (Rgn.bb BK290.out hb); replace BK310 := Aside0.mk (Rgn.bb BK310.out hb); replace BK311 := Aside0.mk (Rgn.bb BK311.out hb); replace HB := Aside0.mk (below_step (Rgn.bq HB.out) hb); (try clear hb); have hnb175 := NB310_290.out; have hnc175 := NB290_310.out; have hnb176 := NB310_311.out; have hnc176 := NB311_310.out; obtain ⟨hcz177_0, hcz177_1, hfz177_0, hfz177_1⟩ := Rgn.c2 BK310.out; have p97 : 0 ≤ (x135_6 : Int) := of_decide_eq_true (by first | (with_reducible assumption) | assumption); have q97 : x135_6 < (t308.size : Int) := of_decide_eq_true (by first | (with_reducible assumption) | assumption); have hx97 := bt_at t308 x135_6; replace p97 := eq_true p97; replace q97 := eq_true q97; have p172 : 0 ≤ (x135_6 : Int) := of_decide_eq_true (by first | (with_reducible assumption) | assumption); have q172 : x135_6 < (t308.size : Int) := of_decide_eq_true (by first | (with_reducible assumption) | assumption); have hx172 := bt_at t308 x135_6; replace p172 := eq_true p172; replace q172 := eq_true q172; have hnb178 := NB311_290.out; have hnc178 := NB290_311.out; obtain ⟨hcz179_0, hcz179_1, hcz179_2, hcz179_3, hcz179_4, hcz179_5, hcz179_6, hfz179_0, hfz179_1, hfz179_2, hfz179_3, hfz179_4, hfz179_5, hfz179_6⟩ := Rgn.cf7 BK311.out))
                              repeat (go_quiet (fail); try go_wp2_with (first | (go_at_call 33; (with_reducible refine (impl_number.calls k6 (rdOf ByteArray.empty y296 x135_6) t313 true _ A95.out).mono ?_); rintro e w174 ⟨rfl, hb⟩; replace HO_133 := Aside0.mk (Kd.Q_below (by (with_reducible repeat (first | apply Kd.Q_alloc | apply Kd.Q_drewN | apply Kd.Q_drew)); exact HO_133.out) hb); replace BK290 := Aside0.mk (Rgn.bb BK290.out hb); replace BK310 := Aside0.mk (Rgn.bb BK310.out hb); replace BK311 := Aside0.mk (Rgn.bb BK311.out hb); replace HB := Aside0.mk (below_step (Rgn.bq HB.out) hb); (try clear hb); have hnb175 := NB310_290.out; have hnc175 := NB290_310.out; have hnb176 := NB310_311.out; have hnc176 := NB311_310.out; obtain ⟨hcz177_0, hcz177_1, hfz177_0, hfz177_1⟩ := Rgn.c2 BK310.out; have p97 : 0 ≤ (x135_6 : Int) := of_decide_eq_true (by first | (with_reducible assumption) | assumption); have q97 : x135_6 < (t308.size : Int) := of_decide_eq_true (by first | (with_reducible assumption) | assumption); have hx97 := bt_at t308 x135_6; replace p97 := eq_true p97; replace q97 := eq_true q97; have p172 : 0 ≤ (x135_6 : Int) := of_decide_eq_true (by first | (with_reducible assumption) | assumption); have q172 : x135_6 < (t308.size : Int) := of_decide_eq_true (by first | (with_reducible assumption) | assumption); have hx172 := bt_at t308 x135_6; replace p172 := eq_true p172; replace q172 := eq_true q172; have hnb178 := NB311_290.out; have hnc178 := NB290_311.out; obtain ⟨hcz179_0, hcz179_1, hcz179_2, hcz179_3, hcz179_4, hcz179_5, hcz179_6, hfz179_0, hfz179_1, hfz179_2, hfz179_3, hfz179_4, hfz179_5, hfz179_6⟩ := Rgn.cf7 BK311.out)))
                              go_roundg k6
                              case measure => have := HJ1.out; have := HK2.out; have := HJ17.out; have := HJ26.out; have := HJ74.out; have := HK6.out; omega
                              case rel => exact ⟨(x17_6), (wrap64 (x135_6 + 1)), (x291000_6), (x291001_6), (x291002_6), (x291003_6), (x291004_6), (x291005_6), (x291006_6), (x291007_6), (x312001_6), (x312002_6), (x312003_6), (t313), (x312005_6), (x312006_6), (by first | rfl | (simp; done) | (simp [*]; done)), (by first | rfl | (simp; done) | (simp [*]; done)), H', ⟨by have := HJ1.out; have := HK2.out; have := HJ17.out; have := HJ26.out; have := HJ74.out; have := HK6.out; omega⟩, ⟨by (with_reducible repeat (first | apply Kd.Q_alloc | apply Kd.Q_drewN | apply Kd.Q_drew)); exact Kd.Q_mono (Kd.Q_far (p := ⟨gb311, 4, none⟩) (Kd.Q_types HO_133.out BK311.out (by decide)) (fun _ hk => hk.2) (.int .i64 t313)) (fun _ hk => trivial)⟩, ⟨Rgn.kf BK290.out⟩, ⟨Rgn.kf BK310.out⟩, ⟨by (with_reducible repeat (first | refine blk_drewN ?_ _ | refine blk_drew ?_ | refine blk_alloc ?_ _)); refine blk_put (cs := #[.int .i64 t309, .string x312001_6, .string x312002_6, .int .i64 x312003_6, .int .i64 x312004_6, .int .i64 x312005_6, .string x312006_6]) ?_ 4 _ rfl; (with_reducible repeat (first | refine blk_drewN ?_ _ | refine blk_drew ?_ | refine blk_alloc ?_ _)); exact BK311.out⟩, ⟨Rgn.bq HB.out⟩⟩
                             ·
                              rw [if_neg c173] at H
                              have c173b0 : ((bt t308 x135_6) == 78) = false := beq_eq_false_iff_ne.mpr c173
                              have c173b1 : ((bt t308 x135_6) != 78) = true := bne_iff_ne.mpr c173
                              by_cases c180 : (bt t308 x135_6) = 83
                              ·
                               rw [if_pos c180] at H
                               have c180b0 : ((bt t308 x135_6) == 83) = true := beq_iff_eq.mpr c180
                               have c180b1 : ((bt t308 x135_6) != 83) = false := bne_eq_false_iff_eq.mpr c180
                               clear c180
                               have H' := Aside0.mk H
                               clear H
                               have p312 : 0 ≤ (x135_6 : Int) := of_decide_eq_true (by first | (with_reducible assumption) | assumption)
                               have q312 : x135_6 < (y296.length : Int) := of_decide_eq_true (by first | (with_reducible assumption) | assumption)
                               obtain ⟨ad312, e312, hx312_0⟩ := Kd.at_string (Kd.Q_reads' HO_133.out).2.2 x135_6 p312 q312
                               cases e312
                               replace p312 := eq_true p312
                               replace q312 := eq_true q312
                               go_wp2_with (first | (go_at_call 33; (with_reducible refine (impl_number.calls k6 (rdOf ByteArray.empty y296 x135_6) t313 true _ A95.out).mono ?_); rintro e w181 ⟨rfl, hb⟩; replace HO_133 := Aside0.mk (Kd.Q_below (by (with_reducible repeat (first | apply Kd.Q_alloc | apply Kd.Q_drewN | apply Kd.Q_drew)); exact HO_133.out) hb); replace BK290 := Aside0.mk (Rgn.bb BK290.out hb); replace BK310 := Aside0.mk (Rgn.bb BK310.out hb); replace BK311 := Aside0.mk (Rgn.bb BK311.out hb); replace HB := Aside0.mk (below_step (Rgn.bq HB.out) hb); (try clear hb); have hnb182 := NB310_290.out; have hnc182 := NB290_310.out; have hnb183 := NB310_311.out; have hnc183 := NB311_310.out; obtain ⟨hcz184_0, hcz184_1, hfz184_0, hfz184_1⟩ := Rgn.c2 BK310.out; have p97 : 0 ≤ (x135_6 : Int) := of_decide_eq_true (by first | (with_reducible assumption) | assumption); have q97 : x135_6 < (t308.size : Int) := of_decide_eq_true (by first | (with_reducible assumption) | assumption); have hx97 := bt_at t308 x135_6; replace p97 := eq_true p97; replace q97 := eq_true q97; have p172 : 0 ≤ (x135_6 : Int) := of_decide_eq_true (by first | (with_reducible assumption) | assumption); have q172 : x135_6 < (t308.size : Int) := of_decide_eq_true (by first | (with_reducible assumption) | assumption); have hx172 := bt_at t308 x135_6; replace p172 := eq_true p172; replace q172 := eq_true q172; have hnb185 := NB311_290.out; have hnc185 := NB290_311.out; obtain ⟨hcz186_0, hcz186_1, hcz186_2, hcz186_3, hcz186_4, hcz186_5, hcz186_6, hfz186_0, hfz186_1, hfz186_2, hfz186_3, hfz186_4, hfz186_5, hfz186_6⟩ := Rgn.cf7 BK311.out))
                               repeat (go_quiet (fail); try go_wp2_with (first | (go_at_call 33; (with_reducible refine (impl_number.calls k6 (rdOf ByteArray.empty y296 x135_6) t313 true _ A95.out).mono ?_); rintro e w181 ⟨rfl, hb⟩; replace HO_133 := Aside0.mk (Kd.Q_below (by (with_reducible repeat (first | apply Kd.Q_alloc | apply Kd.Q_drewN | apply Kd.Q_drew)); exact HO_133.out) hb); replace BK290 := Aside0.mk (Rgn.bb BK290.out hb); replace BK310 := Aside0.mk (Rgn.bb BK310.out hb); replace BK311 := Aside0.mk (Rgn.bb BK311.out hb); replace HB := Aside0.mk (below_step (Rgn.bq HB.out) hb); (try clear hb); have hnb182 := NB310_290.out; have hnc182 := NB290_310.out; have hnb183 := NB310_311.out; have hnc183 := NB311_310.out; obtain ⟨hcz184_0, hcz184_1, hfz184_0, hfz184_1⟩ := Rgn.c2 BK310.out; have p97 : 0 ≤ (x135_6 : Int) := of_decide_eq_true (by first | (with_reducible assumption) | assumption); have q97 : x135_6 < (t308.size : Int) := of_decide_eq_true (by first | (with_reducible assumption) | assumption); have hx97 := bt_at t308 x135_6; replace p97 := eq_true p97; replace q97 := eq_true q97; have p172 : 0 ≤ (x135_6 : Int) := of_decide_eq_true (by first | (with_reducible assumption) | assumption); have q172 : x135_6 < (t308.size : Int) := of_decide_eq_true (by first | (with_reducible assumption) | assumption); have hx172 := bt_at t308 x135_6; replace p172 := eq_true p172; replace q172 := eq_true q172; have hnb185 := NB311_290.out; have hnc185 := NB290_311.out; obtain ⟨hcz186_0, hcz186_1, hcz186_2, hcz186_3, hcz186_4, hcz186_5, hcz186_6, hfz186_0, hfz186_1, hfz186_2, hfz186_3, hfz186_4, hfz186_5, hfz186_6⟩ := Rgn.cf7 BK311.out)))
                               go_roundg k6
                               case measure => have := HJ1.out; have := HK2.out; have := HJ17.out; have := HJ26.out; have := HJ74.out; have := HK6.out; omega
                               case rel => exact ⟨(x17_6), (wrap64 (x135_6 + 1)), (x291000_6), (x291001_6), (x291002_6), (x291003_6), (x291004_6), (x291005_6), (x291006_6), (x291007_6), (x312001_6), (x312002_6), (x312003_6), (x312004_6), (t313), (x312006_6), (by first | rfl | (simp; done) | (simp [*]; done)), (by first | rfl | (simp; done) | (simp [*]; done)), H', ⟨by have := HJ1.out; have := HK2.out; have := HJ17.out; have := HJ26.out; have := HJ74.out; have := HK6.out; omega⟩, ⟨by (with_reducible repeat (first | apply Kd.Q_alloc | apply Kd.Q_drewN | apply Kd.Q_drew)); exact Kd.Q_mono (Kd.Q_far (p := ⟨gb311, 5, none⟩) (Kd.Q_types HO_133.out BK311.out (by decide)) (fun _ hk => hk.2) (.int .i64 t313)) (fun _ hk => trivial)⟩, ⟨Rgn.kf BK290.out⟩, ⟨Rgn.kf BK310.out⟩, ⟨by (with_reducible repeat (first | refine blk_drewN ?_ _ | refine blk_drew ?_ | refine blk_alloc ?_ _)); refine blk_put (cs := #[.int .i64 t309, .string x312001_6, .string x312002_6, .int .i64 x312003_6, .int .i64 x312004_6, .int .i64 x312005_6, .string x312006_6]) ?_ 5 _ rfl; (with_reducible repeat (first | refine blk_drewN ?_ _ | refine blk_drew ?_ | refine blk_alloc ?_ _)); exact BK311.out⟩, ⟨Rgn.bq HB.out⟩⟩
                              ·
                               rw [if_neg c180] at H
                               have c180b0 : ((bt t308 x135_6) == 83) = false := beq_eq_false_iff_ne.mpr c180
                               have c180b1 : ((bt t308 x135_6) != 83) = true := bne_iff_ne.mpr c180
                               by_cases c187 : (bt t308 x135_6) = 72
                               ·
                                rw [if_pos c187] at H
                                have c187b0 : ((bt t308 x135_6) == 72) = true := beq_iff_eq.mpr c187
                                have c187b1 : ((bt t308 x135_6) != 72) = false := bne_eq_false_iff_eq.mpr c187
                                clear c187
                                have H' := Aside0.mk H
                                clear H
                                have p312 : 0 ≤ (x135_6 : Int) := of_decide_eq_true (by first | (with_reducible assumption) | assumption)
                                have q312 : x135_6 < (y296.length : Int) := of_decide_eq_true (by first | (with_reducible assumption) | assumption)
                                obtain ⟨ad312, e312, hx312_0⟩ := Kd.at_string (Kd.Q_reads' HO_133.out).2.2 x135_6 p312 q312
                                cases e312
                                replace p312 := eq_true p312
                                replace q312 := eq_true q312
                                go_wp2_with (first | (go_at_call 33; (with_reducible refine (impl_number.calls k6 (rdOf ByteArray.empty y296 x135_6) t313 true _ A95.out).mono ?_); rintro e w188 ⟨rfl, hb⟩; replace HO_133 := Aside0.mk (Kd.Q_below (by (with_reducible repeat (first | apply Kd.Q_alloc | apply Kd.Q_drewN | apply Kd.Q_drew)); exact HO_133.out) hb); replace BK290 := Aside0.mk (Rgn.bb BK290.out hb); replace BK310 := Aside0.mk (Rgn.bb BK310.out hb); replace BK311 := Aside0.mk (Rgn.bb BK311.out hb); replace HB := Aside0.mk (below_step (Rgn.bq HB.out) hb); (try clear hb); have hnb189 := NB310_290.out; have hnc189 := NB290_310.out; have hnb190 := NB310_311.out; have hnc190 := NB311_310.out; obtain ⟨hcz191_0, hcz191_1, hfz191_0, hfz191_1⟩ := Rgn.c2 BK310.out; have p97 : 0 ≤ (x135_6 : Int) := of_decide_eq_true (by first | (with_reducible assumption) | assumption); have q97 : x135_6 < (t308.size : Int) := of_decide_eq_true (by first | (with_reducible assumption) | assumption); have hx97 := bt_at t308 x135_6; replace p97 := eq_true p97; replace q97 := eq_true q97; have p172 : 0 ≤ (x135_6 : Int) := of_decide_eq_true (by first | (with_reducible assumption) | assumption); have q172 : x135_6 < (t308.size : Int) := of_decide_eq_true (by first | (with_reducible assumption) | assumption); have hx172 := bt_at t308 x135_6; replace p172 := eq_true p172; replace q172 := eq_true q172; have hnb192 := NB311_290.out; have hnc192 := NB290_311.out; obtain ⟨hcz193_0, hcz193_1, hcz193_2, hcz193_3, hcz193_4, hcz193_5, hcz193_6, hfz193_0, hfz193_1, hfz193_2, hfz193_3, hfz193_4, hfz193_5, hfz193_6⟩ := Rgn.cf7 BK311.out))
                                repeat (go_quiet (fail); try go_wp2_with (first | (go_at_call 33; (with_reducible refine (impl_number.calls k6 (rdOf ByteArray.empty y296 x135_6) t313 true _ A95.out).mono ?_); rintro e w188 ⟨rfl, hb⟩; replace HO_133 := Aside0.mk (Kd.Q_below (by (with_reducible repeat (first | apply Kd.Q_alloc | apply Kd.Q_drewN | apply Kd.Q_drew)); exact HO_133.out) hb); replace BK290 := Aside0.mk (Rgn.bb BK290.out hb); replace BK310 := Aside0.mk (Rgn.bb BK310.out hb); replace BK311 := Aside0.mk (Rgn.bb BK311.out hb); replace HB := Aside0.mk (below_step (Rgn.bq HB.out) hb); (try clear hb); have hnb189 := NB310_290.out; have hnc189 := NB290_310.out; have hnb190 := NB310_311.out; have hnc190 := NB311_310.out; obtain ⟨hcz191_0, hcz191_1, hfz191_0, hfz191_1⟩ := Rgn.c2 BK310.out; have p97 : 0 ≤ (x135_6 : Int) := of_decide_eq_true (by first | (with_reducible assumption) | assumption); have q97 : x135_6 < (t308.size : Int) := of_decide_eq_true (by first | (with_reducible assumption) | assumption); have hx97 := bt_at t308 x135_6; replace p97 := eq_true p97; replace q97 := eq_true q97; have p172 : 0 ≤ (x135_6 : Int) := of_decide_eq_true (by first | (with_reducible assumption) | assumption); have q172 : x135_6 < (t308.size : Int) := of_decide_eq_true (by first | (with_reducible assumption) | assumption); have hx172 := bt_at t308 x135_6; replace p172 := eq_true p172; replace q172 := eq_true q172; have hnb192 := NB311_290.out; have hnc192 := NB290_311.out; obtain ⟨hcz193_0, hcz193_1, hcz193_2, hcz193_3, hcz193_4, hcz193_5, hcz193_6, hfz193_0, hfz193_1, hfz193_2, hfz193_3, hfz193_4, hfz193_5, hfz193_6⟩ := Rgn.cf7 BK311.out)))
                                go_roundg k6
                                case measure => have := HJ1.out; have := HK2.out; have := HJ17.out; have := HJ26.out; have := HJ74.out; have := HK6.out; omega
                                case rel => exact ⟨(x17_6), (wrap64 (x135_6 + 1)), (x291000_6), (x291001_6), (x291002_6), (x291003_6), (x291004_6), (x291005_6), (x291006_6), (x291007_6), (x312001_6), (x312002_6), (t313), (x312004_6), (x312005_6), (x312006_6), (by first | rfl | (simp; done) | (simp [*]; done)), (by first | rfl | (simp; done) | (simp [*]; done)), H', ⟨by have := HJ1.out; have := HK2.out; have := HJ17.out; have := HJ26.out; have := HJ74.out; have := HK6.out; omega⟩, ⟨by (with_reducible repeat (first | apply Kd.Q_alloc | apply Kd.Q_drewN | apply Kd.Q_drew)); exact Kd.Q_mono (Kd.Q_far (p := ⟨gb311, 3, none⟩) (Kd.Q_types HO_133.out BK311.out (by decide)) (fun _ hk => hk.2) (.int .i64 t313)) (fun _ hk => trivial)⟩, ⟨Rgn.kf BK290.out⟩, ⟨Rgn.kf BK310.out⟩, ⟨by (with_reducible repeat (first | refine blk_drewN ?_ _ | refine blk_drew ?_ | refine blk_alloc ?_ _)); refine blk_put (cs := #[.int .i64 t309, .string x312001_6, .string x312002_6, .int .i64 x312003_6, .int .i64 x312004_6, .int .i64 x312005_6, .string x312006_6]) ?_ 3 _ rfl; (with_reducible repeat (first | refine blk_drewN ?_ _ | refine blk_drew ?_ | refine blk_alloc ?_ _)); exact BK311.out⟩, ⟨Rgn.bq HB.out⟩⟩
                               ·
                                rw [if_neg c187] at H
                                have c187b0 : ((bt t308 x135_6) == 72) = false := beq_eq_false_iff_ne.mpr c187
                                have c187b1 : ((bt t308 x135_6) != 72) = true := bne_iff_ne.mpr c187
                                by_cases c194 : (bt t308 x135_6) = 70
                                ·
                                 rw [if_pos c194] at H
                                 have c194b0 : ((bt t308 x135_6) == 70) = true := beq_iff_eq.mpr c194
                                 have c194b1 : ((bt t308 x135_6) != 70) = false := bne_eq_false_iff_eq.mpr c194
                                 clear c194
                                 replace H := Option.bind_eq_some_iff.mp H
                                 obtain ⟨t322, A1950, H⟩ := H
                                 replace H : (if t322 = true then (impl_ParseLine.l2 k6 t313 y296 (y296.length : Int) (wrap64 (x135_6 + 1)) t309 t308 t309 x312001_6 x312002_6 x312003_6 x312004_6 x312005_6 x312006_6) else (some (0, 0, (⟨#[]⟩ : ByteArray), (⟨#[]⟩ : ByteArray), 0, 0, 0, (⟨#[]⟩ : ByteArray), ([] : List Int)))) = some (r1, r2, r3, r4, r5, r6, r7, r8, r9) := H
                                 have A195 := Aside0.mk A1950
                                 clear A1950
                                 by_cases c196 : t322 = true
                                 ·
                                  subst c196
                                  replace H := Rgn.ip H
                                  have H' := Aside0.mk H
                                  clear H
                                  have p312 : 0 ≤ (x135_6 : Int) := of_decide_eq_true (by first | (with_reducible assumption) | assumption)
                                  have q312 : x135_6 < (y296.length : Int) := of_decide_eq_true (by first | (with_reducible assumption) | assumption)
                                  obtain ⟨ad312, e312, hx312_0⟩ := Kd.at_string (Kd.Q_reads' HO_133.out).2.2 x135_6 p312 q312
                                  cases e312
                                  replace p312 := eq_true p312
                                  replace q312 := eq_true q312
                                  go_wp2_with (first | (go_at_call 33; (with_reducible refine (impl_number.calls k6 (rdOf ByteArray.empty y296 x135_6) t313 true _ A95.out).mono ?_); rintro e w197 ⟨rfl, hb⟩; replace HO_133 := Aside0.mk (Kd.Q_below (by (with_reducible repeat (first | apply Kd.Q_alloc | apply Kd.Q_drewN | apply Kd.Q_drew)); exact HO_133.out) hb); replace BK290 := Aside0.mk (Rgn.bb BK290.out hb); replace BK310 := Aside0.mk (Rgn.bb BK310.out hb); replace BK311 := Aside0.mk (Rgn.bb BK311.out hb); replace HB := Aside0.mk (below_step (Rgn.bq HB.out) hb); (try clear hb); have hnb198 := NB310_290.out; have hnc198 := NB290_310.out; have hnb199 := NB310_311.out; have hnc199 := NB311_310.out; obtain ⟨hcz200_0, hcz200_1, hfz200_0, hfz200_1⟩ := Rgn.c2 BK310.out; have p97 : 0 ≤ (x135_6 : Int) := of_decide_eq_true (by first | (with_reducible assumption) | assumption); have q97 : x135_6 < (t308.size : Int) := of_decide_eq_true (by first | (with_reducible assumption) | assumption); have hx97 := bt_at t308 x135_6; replace p97 := eq_true p97; replace q97 := eq_true q97; have p172 : 0 ≤ (x135_6 : Int) := of_decide_eq_true (by first | (with_reducible assumption) | assumption); have q172 : x135_6 < (t308.size : Int) := of_decide_eq_true (by first | (with_reducible assumption) | assumption); have hx172 := bt_at t308 x135_6; replace p172 := eq_true p172; replace q172 := eq_true q172) | (go_at_call 35; (with_reducible refine (impl_in.calls t313 0 3000 true _ A195.out).mono ?_); rintro e w' ⟨rfl, ⟨nd, rfl⟩⟩; (try first | exact ⟨rfl, _, World.drewN_drewN _ _ _⟩ | exact ⟨rfl, _, Eq.trans (World.drewN_drewN _ _ _) (congrArg (World.drewN _) (Nat.add_assoc _ _ _))⟩)))
                                  repeat (go_quiet (first | (go_at_call 35; (with_reducible refine (impl_in.calls t313 0 3000 true _ A195.out).mono ?_); rintro e w' ⟨rfl, ⟨nd, rfl⟩⟩; (try first | exact ⟨rfl, _, World.drewN_drewN _ _ _⟩ | exact ⟨rfl, _, Eq.trans (World.drewN_drewN _ _ _) (congrArg (World.drewN _) (Nat.add_assoc _ _ _))⟩))); try go_wp2_with (first | (go_at_call 33; (with_reducible refine (impl_number.calls k6 (rdOf ByteArray.empty y296 x135_6) t313 true _ A95.out).mono ?_); rintro e w197 ⟨rfl, hb⟩; replace HO_133 := Aside0.mk (Kd.Q_below (by (with_reducible repeat (first | apply Kd.Q_alloc | apply Kd.Q_drewN | apply Kd.Q_drew)); exact HO_133.out) hb); replace BK290 := Aside0.mk (Rgn.bb BK290.out hb); replace BK310 := Aside0.mk (Rgn.bb BK310.out hb); replace BK311 := Aside0.mk (Rgn.bb BK311.out hb); replace HB := Aside0.mk (below_step (Rgn.bq HB.out) hb); (try clear hb); have hnb198 := NB310_290.out; have hnc198 := NB290_310.out; have hnb199 := NB310_311.out; have hnc199 := NB311_310.out; obtain ⟨hcz200_0, hcz200_1, hfz200_0, hfz200_1⟩ := Rgn.c2 BK310.out; have p97 : 0 ≤ (x135_6 : Int) := of_decide_eq_true (by first | (with_reducible assumption) | assumption); have q97 : x135_6 < (t308.size : Int) := of_decide_eq_true (by first | (with_reducible assumption) | assumption); have hx97 := bt_at t308 x135_6; replace p97 := eq_true p97; replace q97 := eq_true q97; have p172 : 0 ≤ (x135_6 : Int) := of_decide_eq_true (by first | (with_reducible assumption) | assumption); have q172 : x135_6 < (t308.size : Int) := of_decide_eq_true (by first | (with_reducible assumption) | assumption); have hx172 := bt_at t308 x135_6; replace p172 := eq_true p172; replace q172 := eq_true q172) | (go_at_call 35; (with_reducible refine (impl_in.calls t313 0 3000 true _ A195.out).mono ?_); rintro e w' ⟨rfl, ⟨nd, rfl⟩⟩; (try first | exact ⟨rfl, _, World.drewN_drewN _ _ _⟩ | exact ⟨rfl, _, Eq.trans (World.drewN_drewN _ _ _) (congrArg (World.drewN _) (Nat.add_assoc _ _ _))⟩))))
                                  go_roundg k6
                                  case measure => have := HJ1.out; have := HK2.out; have := HJ17.out; have := HJ26.out; have := HJ74.out; have := HK6.out; omega
                                  case rel => exact ⟨(t313), (wrap64 (x135_6 + 1)), (x291000_6), (x291001_6), (x291002_6), (x291003_6), (x291004_6), (x291005_6), (x291006_6), (x291007_6), (x312001_6), (x312002_6), (x312003_6), (x312004_6), (x312005_6), (x312006_6), (by first | rfl | (simp; done) | (simp [*]; done)), (by first | rfl | (simp; done) | (simp [*]; done)), H', ⟨by have := HJ1.out; have := HK2.out; have := HJ17.out; have := HJ26.out; have := HJ74.out; have := HK6.out; omega⟩, ⟨by (with_reducible repeat (first | apply Kd.Q_alloc | apply Kd.Q_drewN | apply Kd.Q_drew)); exact HO_133.out⟩, ⟨Rgn.kb BK290.out⟩, ⟨Rgn.kb BK310.out⟩, ⟨Rgn.kb BK311.out⟩, ⟨Rgn.bq HB.out⟩⟩
                                 ·
                                  replace c196 := Bool.eq_false_iff.mpr c196
                                  subst c196
                                  replace H := Rgn.im H
                                  simp only [Option.some.injEq, Prod.mk.injEq] at H
                                  obtain ⟨rfl, rfl, rfl, rfl, rfl, rfl, rfl, rfl, rfl⟩ := H
                                  have p312 : 0 ≤ (x135_6 : Int) := of_decide_eq_true (by first | (with_reducible assumption) | assumption)
                                  have q312 : x135_6 < (y296.length : Int) := of_decide_eq_true (by first | (with_reducible assumption) | assumption)
                                  obtain ⟨ad312, e312, hx312_0⟩ := Kd.at_string (Kd.Q_reads' HO_133.out).2.2 x135_6 p312 q312
                                  cases e312
                                  replace p312 := eq_true p312
                                  replace q312 := eq_true q312
                                  go_wp2_with (first | (go_at_call 33; (with_reducible refine (impl_number.calls k6 (rdOf ByteArray.empty y296 x135_6) t313 true _ A95.out).mono ?_); rintro e w201 ⟨rfl, hb⟩; replace HO_133 := Aside0.mk (Kd.Q_below (by (with_reducible repeat (first | apply Kd.Q_alloc | apply Kd.Q_drewN | apply Kd.Q_drew)); exact HO_133.out) hb); replace BK290 := Aside0.mk (Rgn.bb BK290.out hb); replace BK310 := Aside0.mk (Rgn.bb BK310.out hb); replace BK311 := Aside0.mk (Rgn.bb BK311.out hb); replace HB := Aside0.mk (below_step (Rgn.bq HB.out) hb); (try clear hb); have hnb202 := NB310_290.out; have hnc202 := NB290_310.out; have hnb203 := NB310_311.out; have hnc203 := NB311_310.out; obtain ⟨hcz204_0, hcz204_1, hfz204_0, hfz204_1⟩ := Rgn.c2 BK310.out; have p97 : 0 ≤ (x135_6 : Int) := of_decide_eq_true (by first | (with_reducible assumption) | assumption); have q97 : x135_6 < (t308.size : Int) := of_decide_eq_true (by first | (with_reducible assumption) | assumption); have hx97 := bt_at t308 x135_6; replace p97 := eq_true p97; replace q97 := eq_true q97; have p172 : 0 ≤ (x135_6 : Int) := of_decide_eq_true (by first | (with_reducible assumption) | assumption); have q172 : x135_6 < (t308.size : Int) := of_decide_eq_true (by first | (with_reducible assumption) | assumption); have hx172 := bt_at t308 x135_6; replace p172 := eq_true p172; replace q172 := eq_true q172) | (go_at_call 35; (with_reducible refine (impl_in.calls t313 0 3000 false _ A195.out).mono ?_); rintro e w' ⟨rfl, ⟨nd, rfl⟩⟩; (try first | exact ⟨rfl, _, World.drewN_drewN _ _ _⟩ | exact ⟨rfl, _, Eq.trans (World.drewN_drewN _ _ _) (congrArg (World.drewN _) (Nat.add_assoc _ _ _))⟩); have hnb205 := NB290_311.out; have hnc205 := NB311_290.out; obtain ⟨hcz206_0, hcz206_1, hcz206_2, hcz206_3, hcz206_4, hcz206_5, hcz206_6, hcz206_7, hcz206_8, hfz206_0, hfz206_1, hfz206_2, hfz206_3, hfz206_4, hfz206_5, hfz206_6, hfz206_7, hfz206_8⟩ := Rgn.cf9 BK290.out))
                                  repeat (go_quiet (first | (go_at_call 35; (with_reducible refine (impl_in.calls t313 0 3000 false _ A195.out).mono ?_); rintro e w' ⟨rfl, ⟨nd, rfl⟩⟩; (try first | exact ⟨rfl, _, World.drewN_drewN _ _ _⟩ | exact ⟨rfl, _, Eq.trans (World.drewN_drewN _ _ _) (congrArg (World.drewN _) (Nat.add_assoc _ _ _))⟩); have hnb205 := NB290_311.out; have hnc205 := NB311_290.out; obtain ⟨hcz206_0, hcz206_1, hcz206_2, hcz206_3, hcz206_4, hcz206_5, hcz206_6, hcz206_7, hcz206_8, hfz206_0, hfz206_1, hfz206_2, hfz206_3, hfz206_4, hfz206_5, hfz206_6, hfz206_7, hfz206_8⟩ := Rgn.cf9 BK290.out)); try go_wp2_with (first | (go_at_call 33; (with_reducible refine (impl_number.calls k6 (rdOf ByteArray.empty y296 x135_6) t313 true _ A95.out).mono ?_); rintro e w201 ⟨rfl, hb⟩; replace HO_133 := Aside0.mk (Kd.Q_below (by (with_reducible repeat (first | apply Kd.Q_alloc | apply Kd.Q_drewN | apply Kd.Q_drew)); exact HO_133.out) hb); replace BK290 := Aside0.mk (Rgn.bb BK290.out hb); replace BK310 := Aside0.mk (Rgn.bb BK310.out hb); replace BK311 := Aside0.mk (Rgn.bb BK311.out hb); replace HB := Aside0.mk (below_step (Rgn.bq HB.out) hb); (try clear hb); have hnb202 := NB310_290.out; have hnc202 := NB290_310.out; have hnb203 := NB310_311.out; have hnc203 := NB311_310.out; obtain ⟨hcz204_0, hcz204_1, hfz204_0, hfz204_1⟩ := Rgn.c2 BK310.out; have p97 : 0 ≤ (x135_6 : Int) := of_decide_eq_true (by first | (with_reducible assumption) | assumption); have q97 : x135_6 < (t308.size : Int) := of_decide_eq_true (by first | (with_reducible assumption) | assumption); have hx97 := bt_at t308 x135_6; replace p97 := eq_true p97; replace q97 := eq_true q97; have p172 : 0 ≤ (x135_6 : Int) := of_decide_eq_true (by first | (with_reducible assumption) | assumption); have q172 : x135_6 < (t308.size : Int) := of_decide_eq_true (by first | (with_reducible assumption) | assumption); have hx172 := bt_at t308 x135_6; replace p172 := eq_true p172; replace q172 := eq_true q172) | (go_at_call 35; (with_reducible refine (impl_in.calls t313 0 3000 false _ A195.out).mono ?_); rintro e w' ⟨rfl, ⟨nd, rfl⟩⟩; (try first | exact ⟨rfl, _, World.drewN_drewN _ _ _⟩ | exact ⟨rfl, _, Eq.trans (World.drewN_drewN _ _ _) (congrArg (World.drewN _) (Nat.add_assoc _ _ _))⟩); have hnb205 := NB290_311.out; have hnc205 := NB311_290.out; obtain ⟨hcz206_0, hcz206_1, hcz206_2, hcz206_3, hcz206_4, hcz206_5, hcz206_6, hcz206_7, hcz206_8, hfz206_0, hfz206_1, hfz206_2, hfz206_3, hfz206_4, hfz206_5, hfz206_6, hfz206_7, hfz206_8⟩ := Rgn.cf9 BK290.out)))
                                  refine bodyPost_ret (results_cell_row rfl _ _ gb290 27 _ (0, 0) _ rfl (by exact Rgn.put9 (Rgn.kf BK290.out)) Tryd.underlying27 rfl (by kernel_rfl)) rfl ?_
                                  exact ⟨_, by first | rfl | (simp [errW_none, errW_some] <;> rfl) | (simp [*, errW_none, errW_some] <;> rfl), by first | exact Kd.R_nil _ _ _ _ _ | exact Kd.N_nil _ _ _ _ _ | exact Kd.V_nil _ _ _ _ _ | exact Kd.Q_nil _ _ _ _ _ | exact Kd.S_nil _ _ _ _ _, Rgn.bq HB.out⟩
                                ·
                                 rw [if_neg c194] at H
                                 have c194b0 : ((bt t308 x135_6) == 70) = false := beq_eq_false_iff_ne.mpr c194
                                 have c194b1 : ((bt t308 x135_6) != 70) = true := bne_iff_ne.mpr c194
                                 have H' := Aside0.mk H
                                 clear H
                                 have p312 : 0 ≤ (x135_6 : Int) := of_decide_eq_true (by first | (with_reducible assumption) | assumption)
                                 have q312 : x135_6 < (y296.length : Int) := of_decide_eq_true (by first | (with_reducible assumption) | assumption)
                                 obtain ⟨ad312, e312, hx312_0⟩ := Kd.at_string (Kd.Q_reads' HO_133.out).2.2 x135_6 p312 q312
                                 cases e312
                                 replace p312 := eq_true p312
                                 replace q312 := eq_true q312
                                 go_wp2_with (first | (go_at_call 33; (with_reducible refine (impl_number.calls k6 (rdOf ByteArray.empty y296 x135_6) t313 true _ A95.out).mono ?_); rintro e w207 ⟨rfl, hb⟩; replace HO_133 := Aside0.mk (Kd.Q_below (by (with_reducible repeat (first | apply Kd.Q_alloc | apply Kd.Q_drewN | apply Kd.Q_drew)); exact HO_133.out) hb); replace BK290 := Aside0.mk (Rgn.bb BK290.out hb); replace BK310 := Aside0.mk (Rgn.bb BK310.out hb); replace BK311 := Aside0.mk (Rgn.bb BK311.out hb); replace HB := Aside0.mk (below_step (Rgn.bq HB.out) hb); (try clear hb); have hnb208 := NB310_290.out; have hnc208 := NB290_310.out; have hnb209 := NB310_311.out; have hnc209 := NB311_310.out; obtain ⟨hcz210_0, hcz210_1, hfz210_0, hfz210_1⟩ := Rgn.c2 BK310.out; have p97 : 0 ≤ (x135_6 : Int) := of_decide_eq_true (by first | (with_reducible assumption) | assumption); have q97 : x135_6 < (t308.size : Int) := of_decide_eq_true (by first | (with_reducible assumption) | assumption); have hx97 := bt_at t308 x135_6; replace p97 := eq_true p97; replace q97 := eq_true q97; have p172 : 0 ≤ (x135_6 : Int) := of_decide_eq_true (by first | (with_reducible assumption) | assumption); have q172 : x135_6 < (t308.size : Int) := of_decide_eq_true (by first | (with_reducible assumption) | assumption); have hx172 := bt_at t308 x135_6; replace p172 := eq_true p172; replace q172 := eq_true q172))
                                 repeat (go_quiet (fail); try go_wp2_with (first | (go_at_call 33; (with_reducible refine (impl_number.calls k6 (rdOf ByteArray.empty y296 x135_6) t313 true _ A95.out).mono ?_); rintro e w207 ⟨rfl, hb⟩; replace HO_133 := Aside0.mk (Kd.Q_below (by (with_reducible repeat (first | apply Kd.Q_alloc | apply Kd.Q_drewN | apply Kd.Q_drew)); exact HO_133.out) hb); replace BK290 := Aside0.mk (Rgn.bb BK290.out hb); replace BK310 := Aside0.mk (Rgn.bb BK310.out hb); replace BK311 := Aside0.mk (Rgn.bb BK311.out hb); replace HB := Aside0.mk (below_step (Rgn.bq HB.out) hb); (try clear hb); have hnb208 := NB310_290.out; have hnc208 := NB290_310.out; have hnb209 := NB310_311.out; have hnc209 := NB311_310.out; obtain ⟨hcz210_0, hcz210_1, hfz210_0, hfz210_1⟩ := Rgn.c2 BK310.out; have p97 : 0 ≤ (x135_6 : Int) := of_decide_eq_true (by first | (with_reducible assumption) | assumption); have q97 : x135_6 < (t308.size : Int) := of_decide_eq_true (by first | (with_reducible assumption) | assumption); have hx97 := bt_at t308 x135_6; replace p97 := eq_true p97; replace q97 := eq_true q97; have p172 : 0 ≤ (x135_6 : Int) := of_decide_eq_true (by first | (with_reducible assumption) | assumption); have q172 : x135_6 < (t308.size : Int) := of_decide_eq_true (by first | (with_reducible assumption) | assumption); have hx172 := bt_at t308 x135_6; replace p172 := eq_true p172; replace q172 := eq_true q172)))
                                 go_roundg k6
                                 case measure => have := HJ1.out; have := HK2.out; have := HJ17.out; have := HJ26.out; have := HJ74.out; have := HK6.out; omega
                                 case rel => exact ⟨(x17_6), (wrap64 (x135_6 + 1)), (x291000_6), (x291001_6), (x291002_6), (x291003_6), (x291004_6), (x291005_6), (x291006_6), (x291007_6), (x312001_6), (x312002_6), (x312003_6), (x312004_6), (x312005_6), (x312006_6), (by first | rfl | (simp; done) | (simp [*]; done)), (by first | rfl | (simp; done) | (simp [*]; done)), H', ⟨by have := HJ1.out; have := HK2.out; have := HJ17.out; have := HJ26.out; have := HJ74.out; have := HK6.out; omega⟩, ⟨by (with_reducible repeat (first | apply Kd.Q_alloc | apply Kd.Q_drewN | apply Kd.Q_drew)); exact HO_133.out⟩, ⟨Rgn.kb BK290.out⟩, ⟨Rgn.kb BK310.out⟩, ⟨Rgn.kb BK311.out⟩, ⟨Rgn.bq HB.out⟩⟩
                            ·
                             replace c171 := Bool.eq_false_iff.mpr c171
                             subst c171
                             replace H := Rgn.im H
                             simp only [Option.some.injEq, Prod.mk.injEq] at H
                             obtain ⟨rfl, rfl, rfl, rfl, rfl, rfl, rfl, rfl, rfl⟩ := H
                             have p312 : 0 ≤ (x135_6 : Int) := of_decide_eq_true (by first | (with_reducible assumption) | assumption)
                             have q312 : x135_6 < (y296.length : Int) := of_decide_eq_true (by first | (with_reducible assumption) | assumption)
                             obtain ⟨ad312, e312, hx312_0⟩ := Kd.at_string (Kd.Q_reads' HO_133.out).2.2 x135_6 p312 q312
                             cases e312
                             replace p312 := eq_true p312
                             replace q312 := eq_true q312
                             go_wp2_with (first | (go_at_call 33; (with_reducible refine (impl_number.calls k6 (rdOf ByteArray.empty y296 x135_6) t313 false _ A95.out).mono ?_); rintro e w211 ⟨rfl, hb⟩; replace HO_133 := Aside0.mk (Kd.Q_below (by (with_reducible repeat (first | apply Kd.Q_alloc | apply Kd.Q_drewN | apply Kd.Q_drew)); exact HO_133.out) hb); replace BK290 := Aside0.mk (Rgn.bb BK290.out hb); replace BK310 := Aside0.mk (Rgn.bb BK310.out hb); replace BK311 := Aside0.mk (Rgn.bb BK311.out hb); replace HB := Aside0.mk (below_step (Rgn.bq HB.out) hb); (try clear hb); have hnb212 := NB310_290.out; have hnc212 := NB290_310.out; have hnb213 := NB310_311.out; have hnc213 := NB311_310.out; obtain ⟨hcz214_0, hcz214_1, hfz214_0, hfz214_1⟩ := Rgn.c2 BK310.out; have p97 : 0 ≤ (x135_6 : Int) := of_decide_eq_true (by first | (with_reducible assumption) | assumption); have q97 : x135_6 < (t308.size : Int) := of_decide_eq_true (by first | (with_reducible assumption) | assumption); have hx97 := bt_at t308 x135_6; replace p97 := eq_true p97; replace q97 := eq_true q97; have hnb215 := NB290_311.out; have hnc215 := NB311_290.out; obtain ⟨hcz216_0, hcz216_1, hcz216_2, hcz216_3, hcz216_4, hcz216_5, hcz216_6, hcz216_7, hcz216_8, hfz216_0, hfz216_1, hfz216_2, hfz216_3, hfz216_4, hfz216_5, hfz216_6, hfz216_7, hfz216_8⟩ := Rgn.cf9 BK290.out))
                             repeat (go_quiet (fail); try go_wp2_with (first | (go_at_call 33; (with_reducible refine (impl_number.calls k6 (rdOf ByteArray.empty y296 x135_6) t313 false _ A95.out).mono ?_); rintro e w211 ⟨rfl, hb⟩; replace HO_133 := Aside0.mk (Kd.Q_below (by (with_reducible repeat (first | apply Kd.Q_alloc | apply Kd.Q_drewN | apply Kd.Q_drew)); exact HO_133.out) hb); replace BK290 := Aside0.mk (Rgn.bb BK290.out hb); replace BK310 := Aside0.mk (Rgn.bb BK310.out hb); replace BK311 := Aside0.mk (Rgn.bb BK311.out hb); replace HB := Aside0.mk (below_step (Rgn.bq HB.out) hb); (try clear hb); have hnb212 := NB310_290.out; have hnc212 := NB290_310.out; have hnb213 := NB310_311.out; have hnc213 := NB311_310.out; obtain ⟨hcz214_0, hcz214_1, hfz214_0, hfz214_1⟩ := Rgn.c2 BK310.out; have p97 : 0 ≤ (x135_6 : Int) := of_decide_eq_true (by first | (with_reducible assumption) | assumption); have q97 : x135_6 < (t308.size : Int) := of_decide_eq_true (by first | (with_reducible assumption) | assumption); have hx97 := bt_at t308 x135_6; replace p97 := eq_true p97; replace q97 := eq_true q97; have hnb215 := NB290_311.out; have hnc215 := NB311_290.out; obtain ⟨hcz216_0, hcz216_1, hcz216_2, hcz216_3, hcz216_4, hcz216_5, hcz216_6, hcz216_7, hcz216_8, hfz216_0, hfz216_1, hfz216_2, hfz216_3, hfz216_4, hfz216_5, hfz216_6, hfz216_7, hfz216_8⟩ := Rgn.cf9 BK290.out)))
                             refine bodyPost_ret (results_cell_row rfl _ _ gb290 27 _ (0, 0) _ rfl (by exact Rgn.put9 (Rgn.kf BK290.out)) Tryd.underlying27 rfl (by kernel_rfl)) rfl ?_
                             exact ⟨_, by first | rfl | (simp [errW_none, errW_some] <;> rfl) | (simp [*, errW_none, errW_some] <;> rfl), by first | exact Kd.R_nil _ _ _ _ _ | exact Kd.N_nil _ _ _ _ _ | exact Kd.V_nil _ _ _ _ _ | exact Kd.Q_nil _ _ _ _ _ | exact Kd.S_nil _ _ _ _ _, Rgn.bq HB.out⟩
                       ·
                        rw [if_neg c96] at H
                        exact absurd H (by simp)
                      ·
                       rw [if_neg c94] at H
                       exact absurd H (by simp)
                     ·
                      rw [if_neg c93] at H
                      exact absurd H (by simp)
                    ·
                     rw [if_neg c92] at H
                     have c92b0 : decide (x135_6 < (y296.length : Int)) = false := decide_eq_false c92
                     clear c92
                     simp only [Option.some.injEq, Prod.mk.injEq] at H
                     obtain ⟨rfl, rfl, rfl, rfl, rfl, rfl, rfl, rfl, rfl⟩ := H
                     have hnb217 := NB311_290.out
                     have hnc217 := NB290_311.out
                     have hnb218 := NB311_310.out
                     have hnc218 := NB310_311.out
                     obtain ⟨hcz219_0, hcz219_1, hcz219_2, hcz219_3, hcz219_4, hcz219_5, hcz219_6, hfz219_0, hfz219_1, hfz219_2, hfz219_3, hfz219_4, hfz219_5, hfz219_6⟩ := Rgn.cf7 BK311.out
                     have hnb220 := NB290_310.out
                     have hnc220 := NB310_290.out
                     obtain ⟨hcz221_0, hcz221_1, hcz221_2, hcz221_3, hcz221_4, hcz221_5, hcz221_6, hcz221_7, hcz221_8, hfz221_0, hfz221_1, hfz221_2, hfz221_3, hfz221_4, hfz221_5, hfz221_6, hfz221_7, hfz221_8⟩ := Rgn.cf9 BK290.out
                     go_wp2
                     repeat (go_quiet (fail); try go_wp2)
                     refine bodyPost_ret (results_cell_row rfl _ _ gb290 27 _ (0, 0) _ rfl (by exact Rgn.put9 (Rgn.kf BK290.out)) Tryd.underlying27 rfl (by kernel_rfl)) rfl ?_
                     exact ⟨_, by first | rfl | (simp [errW_none, errW_some] <;> rfl) | (simp [*, errW_none, errW_some] <;> rfl), by first | exact Kd.R_nil _ _ _ _ _ | exact Kd.N_nil _ _ _ _ _ | exact Kd.V_nil _ _ _ _ _ | exact Kd.Q_nil _ _ _ _ _ | exact Kd.S_nil _ _ _ _ _, Rgn.bq HB.out⟩
        ·
         rw [if_neg c17] at H
         exact absurd H (by simp)
       ·
        rw [if_neg c16] at H
        exact absurd H (by simp)

end Go.Proofs.YtkehfdadplpaeaaDoor.PFnExactParseLine
