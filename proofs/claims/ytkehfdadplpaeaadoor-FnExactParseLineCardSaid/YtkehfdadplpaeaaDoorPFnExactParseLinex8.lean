-- written by a program of this session (wip/src/print2.py)
import Derived.Test.YtkehfdadplpaeaaDoorPFnExactParseLinex0
namespace Go.Proofs.YtkehfdadplpaeaaDoor.PFnExactParseLine
open Go.RowKit Go.Proofs.YtkehfdadplpaeaaDoorW.PrintWords Go.Proofs.YtkehfdadplpaeaaDoorW.PrintLast Go.Proofs.YtkehfdadplpaeaaDoorW.PrintMore
attribute [local go_sem] max2_int min2_int max_two min_two max_three min_three max_four min_four   -- for this text's walks alone
set_option linter.unusedVariables false
set_option linter.unusedSimpArgs false

/-! ### laws_toByteS: function 7 -/
def laws_toByteS.l0 : Nat → List Int → List Int → Int → Option (List Int)
 | 0, _, _, _ => none
 | k + 1, x0, x3, x4 => if x4 < (x0.length : Int) then (if 0 ≤ x4 then (if x4 < (x3.length : Int) then (laws_toByteS.l0 k x0 (x3.set (x4 : Int).toNat (rd x0 x4)) (wrap64 (x4 + 1))) else (none)) else (none)) else (some x3)
def laws_toByteS.f (k : Nat) (l0 : List Int) : Option (List Int) := if 0 ≤ (l0.length : Int) then (if ((l0.length : Int) : Int).toNat ≤ 281474976710656 then (laws_toByteS.l0 k l0 (List.replicate ((l0.length : Int) : Int).toNat 0) 0) else (none)) else (none)
set_option maxHeartbeats 8000000 in
set_option maxRecDepth 100000 in
theorem laws_toByteS.calls (k : Nat) (A0 : Option Addr) (c0 : Nat) (l0 : List Int) (r : List Int) (w : World) (hr0 : Kd.C (Kd.int .u8) w A0 l0.length l0) (hc0 : l0.length ≤ c0) (h : laws_toByteS.f k l0 = some r) :
  Calls Tryd.prog 7 #[.slice A0 l0.length c0] w fun e w' => ∃ v0_ : Value, e = .returned (v0_) ∧ Kd.R (Kd.int .u8) 5 w' w.heap.size (fun _ => True) v0_ r ∧ Below w.heap.size w w' := by
 have HR0 := Aside0.mk hr0
 have HC0 := Aside0.mk hc0
 clear hr0 hc0
 have HB := Aside0.mk (Below.refl w.heap.size w)
 have H : (if 0 ≤ (l0.length : Int) then (if ((l0.length : Int) : Int).toNat ≤ 281474976710656 then (laws_toByteS.l0 k l0 (List.replicate ((l0.length : Int) : Int).toNat 0) 0) else (none)) else (none)) = some r := h
 clear h
 by_cases c2 : 0 ≤ (l0.length : Int)
 ·
  rw [if_pos c2] at H
  have c2b0 := eq_true c2
  have c2b1 : decide (0 ≤ (l0.length : Int)) = true := decide_eq_true c2
  clear c2
  by_cases c3 : ((l0.length : Int) : Int).toNat ≤ 281474976710656
  ·
   rw [if_pos c3] at H
   have c3b0 := eq_true c3
   have c3b1 : decide (((l0.length : Int) : Int).toNat ≤ 281474976710656) = true := decide_eq_true c3
   clear c3
   obtain ⟨y273, hy273⟩ : ∃ y_ : List Int, y_ = (List.replicate ((l0.length : Int) : Int).toNat 0) := ⟨_, rfl⟩
   replace H : (laws_toByteS.l0 k l0 y273 0) = some r := by first | (rw [hy273]; with_reducible exact H) | (have H2_ := (Option.bind_some _ _).symm.trans H; rw [hy273]; with_reducible exact H2_) | (have H2_ := (Option.bind_some _ _).symm.trans H; with_reducible exact H2_) | with_reducible exact H | (rw [hy273]; exact H) | exact H
   have Ny273 := Aside0.mk hy273
   clear hy273
   have H' := Aside0.mk H
   clear H
   go_enter Tryd.func7, Tryd.ntmps7
   go_wp2_with (first | ((with_reducible refine gate_dst (N := 7) rfl ?_); refine Kd.R_make (Kd.int .u8) _ 5 rfl (N := 7) rfl 22 _ _ rfl (l0.length : Int) rfl rfl Tryd.underlying22 (.int .u8 0) 1 info5 rfl (by decide) (by omega) 0 (ok := fun _ => True) (okp := fun _ => True) rfl (fun _ hk => hk) trivial (of_decide_eq_true (by first | (with_reducible assumption) | assumption)) (Nat.le_trans (Nat.mul_le_mul_right _ (of_decide_eq_true (by first | (with_reducible assumption) | assumption) : (l0.length : Int).toNat ≤ 281474976710656)) (by omega)) (Below.refl _ _) (Nat.le_refl _) ?_; intro v274 w4 ho5 hb hg_ hnew_; clear hg_ hnew_; (first | rw [← Ny273.out] at ho5 | (simp only [Int.reduceToNat] at ho5; rw [← Ny273.out] at ho5)); have HO275 := Aside0.mk (Kd.R_lower ho5 (below_size (Rgn.bq HB.out))); replace HB := Aside0.mk (below_step (Rgn.bq HB.out) hb); clear hb ho5))
   go_loopg [4] k (fun kq v4 w' => ∃ (x3_1 : List Int) (x4_1 : Int), v4 = .int .i64 x4_1 ∧ Aside0 (laws_toByteS.l0 kq l0 x3_1 x4_1 = some r) ∧ Aside0 (kq ≤ k) ∧ Aside0 (Kd.R (Kd.int .u8) 5 w' w.heap.size (fun _ => True) v274 x3_1) ∧ Aside0 (Below w.heap.size w w'))
   case atStart => exact ⟨(y273), (0), (by first | rfl | (simp; done) | (simp [*]; done)), H', ⟨Nat.le_refl _⟩, ⟨Rgn.rq HO275.out⟩, ⟨Rgn.bq HB.out⟩⟩
   case round =>
    clear H'
    try clear c2
    try clear c2b0
    try clear c2b1
    try clear c3
    try clear c3b0
    try clear c3b1
    obtain ⟨x3_1, x4_1, rfl, HA, HK1, HO_3, HB⟩ := hrel
    cases gk with
    | zero => exact absurd HA.out (by simp [laws_toByteS.l0])
    | succ k1 =>
     have H := HA.out
     clear HA
     simp only [laws_toByteS.l0] at H
     by_cases c6 : x4_1 < (l0.length : Int)
     ·
      rw [if_pos c6] at H
      have c6b0 : decide (x4_1 < (l0.length : Int)) = true := decide_eq_true c6
      clear c6
      by_cases c7 : 0 ≤ x4_1
      ·
       rw [if_pos c7] at H
       have c7b0 : decide (0 ≤ x4_1) = true := decide_eq_true c7
       clear c7
       by_cases c8 : x4_1 < (x3_1.length : Int)
       ·
        rw [if_pos c8] at H
        have c8b0 : decide (x4_1 < (x3_1.length : Int)) = true := decide_eq_true c8
        clear c8
        obtain ⟨y277, hy277⟩ : ∃ y_ : List Int, y_ = (x3_1.set (x4_1 : Int).toNat (rd l0 x4_1)) := ⟨_, rfl⟩
        replace H : (laws_toByteS.l0 k1 l0 y277 (wrap64 (x4_1 + 1))) = some r := by first | (rw [hy277]; with_reducible exact H) | (have H2_ := (Option.bind_some _ _).symm.trans H; rw [hy277]; with_reducible exact H2_) | (have H2_ := (Option.bind_some _ _).symm.trans H; with_reducible exact H2_) | with_reducible exact H | (rw [hy277]; exact H) | exact H
        have Ny277 := Aside0.mk hy277
        clear hy277
        have H' := Aside0.mk H
        clear H
        have p276 : 0 ≤ (x4_1 : Int) := of_decide_eq_true (by first | (with_reducible assumption) | assumption)
        have q276 : x4_1 < (l0.length : Int) := of_decide_eq_true (by first | (with_reducible assumption) | assumption)
        obtain ⟨ad276, e276, hx276_0⟩ := Kd.at_int HR0.out x4_1 p276 q276
        cases e276
        replace hx276_0 := Rgn.hx HB.out hx276_0
        replace p276 := eq_true p276
        replace q276 := eq_true q276
        have p9 : 0 ≤ (x4_1 : Int) := of_decide_eq_true (by first | (with_reducible assumption) | assumption)
        have q9 : (x4_1 : Int) < ((x3_1.length : Int) : Int) := of_decide_eq_true (by first | (with_reducible assumption) | assumption)
        obtain ⟨go9, co9, eo9, gb9, gl9, cl9, HG9⟩ := Kd.R_form HO_3.out (by omega)
        (first | cases eo9 | (injection eo9 with ea_ en_ ec_; (first | subst ea_ | (injection ea_ with ea_; subst ea_)); subst ec_; clear en_))
        have GB9 := Aside0.mk gb9
        have GG9 := Aside0.mk HG9
        clear gb9 gl9 HG9
        obtain ⟨hx9_0, hf9_0⟩ := Kd.R_celln 0 HO_3.out (x4_1 : Int) p9 q9
        replace p9 := eq_true p9
        replace q9 := eq_true q9
        have HP10 := Kd.R_putg HO_3.out (x4_1 : Int) (rd l0 x4_1)
        go_wp2_with (first | ((with_reducible refine gate_store (t := 5) (p := 20) rfl ?_); refine store_event (t := 5) (p := 20) (v := ?vo_w11) (w1 := (wr.setCell ⟨go9, (x4_1 : Int).toNat, none⟩ (.int .u8 (rd l0 x4_1)))) ?hg ?ho ?hn ?hr ?_; (case ho => rfl); (case hg => rfl); (case hn => rfl); (case hr => first | (go_simp; done) | (go_simp; rfl)); intro w11 hw; have hg : wr.grownBy w11 (some go9) := (by rw [hw]; exact HP10.2); have hp_ : Kd.R (Kd.int .u8) 5 w11 w.heap.size (fun _ => True) (.slice (some ⟨go9, 0, none⟩) x3_1.length co9) y277 := (by rw [hw, Ny277.out]; exact HP10.1); clear HP10; replace HO_3 := Aside0.mk (hp_); replace HB := Aside0.mk ((by rw [hw]; exact below_set (HB.out) GB9.out : Below w.heap.size w w11)); clear hg hw hp_))
        go_roundg k1
        case measure => have := HK1.out; omega
        case rel => exact ⟨(y277), (wrap64 (x4_1 + 1)), (by first | rfl | (simp; done) | (simp [*]; done)), H', ⟨by have := HK1.out; omega⟩, ⟨Rgn.rq HO_3.out⟩, ⟨Rgn.bq HB.out⟩⟩
       ·
        rw [if_neg c8] at H
        exact absurd H (by simp)
      ·
       rw [if_neg c7] at H
       exact absurd H (by simp)
     ·
      rw [if_neg c6] at H
      have c6b0 : decide (x4_1 < (l0.length : Int)) = false := decide_eq_false c6
      clear c6
      obtain rfl := Option.some.inj H
      go_wp2
      go_ret
      exact ⟨_, by first | rfl | (simp [errW_none, errW_some] <;> rfl) | (simp [*, errW_none, errW_some] <;> rfl), Rgn.rq HO_3.out, Rgn.bq HB.out⟩
  ·
   rw [if_neg c3] at H
   exact absurd H (by simp)
 ·
  rw [if_neg c2] at H
  exact absurd H (by simp)

/-! ### strings_Split: function 32 -/
/-- internal/bytealg.MaxLen holds some number. -/
def GlobM (w : World) : Prop := ∃ m : Int, w.cell? ⟨1, 0, none⟩ = some (.int .i64 m)
theorem GlobM.below {w w' : World} (h : GlobM w) (hB : Below w.heap.size w w') : GlobM w' := by
  obtain ⟨m, hm⟩ := h
  refine ⟨m, (hB.cell ?_).trans hm⟩
  rcases Nat.lt_or_ge 1 w.heap.size with h0 | h0
  · exact h0
  · rw [World.cell?, Array.getElem?_eq_none (by show w.heap.size ≤ 1; omega)] at hm; cases hm
/-- strings.Split at "/": the pieces. -/
def strings_Split.f (s sep : ByteArray) : Option (List ByteArray) := if s.size ≤ 1048576 ∧ sep.size = 1 then some (Lib.splitB sep 0 (Lib.countB s sep) s) else none
theorem strings_Split.calls (s sep : ByteArray) (r : List ByteArray) (w : World) (h : strings_Split.f s sep = some r) (hG : GlobM w) :
    Calls Tryd.prog 32 #[.string s, .string sep] w fun e w' => ∃ v0_ : Value, e = .returned (v0_) ∧ Kd.R Kd.string 9 w' w.heap.size (fun _ => True) v0_ r ∧ Below w.heap.size w w' := by
  obtain ⟨m, hm⟩ := hG
  unfold strings_Split.f at h
  by_cases c : s.size ≤ 1048576 ∧ sep.size = 1
  · rw [if_pos c] at h
    have hr := Option.some.inj h
    have hle := Lib.countB_le sep (by omega) s.size s (Nat.le_refl _)
    have hlen : r.length = Lib.countB s sep + 1 := by rw [← hr]; exact Lib.splitB_all sep (by omega) 0 _ s rfl
    refine (Tryd.strings_Split s sep m w (by omega) hm (by omega)).mono fun e w' ⟨he, hw⟩ => ?_
    subst hw
    refine ⟨_, he, Kd.R_of_own ?_ (fun _ _ => trivial), (Below.refl _ _).alloc (Nat.le_refl _) _⟩
    refine ⟨by simp [encs], .inr ⟨w.heap.size, _, _, by rw [hlen], Nat.le_refl _, blk_new w _, Nat.le_of_eq hlen, ?_, ?_, ?_⟩⟩
    · unfold maxLen; omega
    · rw [List.size_toArray, List.length_map, hr, hlen]; omega
    · rw [hr]; show List.take _ (List.map Value.string r) = List.map Value.string r
      rw [List.take_of_length_le (by simp)]
  · rw [if_neg c] at h; cases h


/-! ### strconv_ParseInt: function 64 -/
/-- strconv.ParseInt(s, 10, 64) at a text that spells a number of 64 bits. -/
def strconv_ParseInt.f (s : ByteArray) (b n : Int) : Option (Int × Option Int) := if b = 10 ∧ n = 64 ∧ s.size ≤ 1048576 then (match Lib.parseIntB 64 s.data.toList with | .ok v => some (v, none) | _ => none) else none
theorem strconv_ParseInt.calls (s : ByteArray) (b n : Int) (r1 : Int) (r2 : Option Int) (w : World) (h : strconv_ParseInt.f s b n = some (r1, r2)) :
    Calls Tryd.prog 64 #[.string s, .int .i64 b, .int .i64 n] w fun e w' => e = .returned (.tuple #[.int .i64 r1, errW r2]) ∧ Below w.heap.size w w' := by
  unfold strconv_ParseInt.f at h
  by_cases c : b = 10 ∧ n = 64 ∧ s.size ≤ 1048576
  · rw [if_pos c] at h
    obtain ⟨rfl, rfl, hs⟩ := c
    split at h
    · rename_i v hv
      simp only [Option.some.injEq, Prod.mk.injEq] at h
      obtain ⟨rfl, rfl⟩ := h
      refine (Tryd.strconv_ParseInt_10_at64_ok s (by omega) v hv w).mono fun e w' ⟨he, hw⟩ => ⟨he, ?_⟩
      rcases hw with rfl | ⟨t, rfl⟩
      · exact Below.refl _ _
      · exact bytes_below (Below.refl _ _) (Nat.le_refl _) _ _
    · cases h
  · rw [if_neg c] at h; cases h


/-! ### impl_number: function 33 -/
mutual
def impl_number.j0 : Nat → ByteArray → ByteArray → Bool → Option (Int × Bool)
 | 0, _, _, _ => none
 | k + 1, x0, x4, x17 => if x17 = true then (if 1 ≤ (x4.size : Int) then (impl_number.j1 k x0 (x4.extract 1 x4.size)) else (none)) else (impl_number.j1 k x0 x4)
def impl_number.j1 : Nat → ByteArray → ByteArray → Option (Int × Bool)
 | 0, _, _ => none
 | k + 1, x0, x4 => if (x4.size : Int) < 1 then (impl_number.j2 k x0 x4 true) else (if (x4.size : Int) > 9 then (impl_number.j2 k x0 x4 true) else (if 0 < (x4.size : Int) then (impl_number.j2 k x0 x4 ((bt x4 0) == 48)) else (none)))
def impl_number.j2 : Nat → ByteArray → ByteArray → Bool → Option (Int × Bool)
 | 0, _, _, _ => none
 | k + 1, x0, x4, x32 => if x32 = true then (some (0, false)) else (impl_number.l0 k x0 x4 (x4.size : Int) 0)
def impl_number.l0 : Nat → ByteArray → ByteArray → Int → Int → Option (Int × Bool)
 | 0, _, _, _, _ => none
 | k + 1, x0, x4, x34, x35 => if x35 < x34 then (if 0 ≤ x35 then (if x35 < (x4.size : Int) then (if (bt x4 x35) < 48 then (some (0, false)) else (if (bt x4 x35) > 57 then (some (0, false)) else (impl_number.l0 k x0 x4 x34 (wrap64 (x35 + 1))))) else (none)) else (none)) else ((strconv_ParseInt.f x0 10 64).bind fun bt278 => (some (bt278.1, true)))
end
def impl_number.f (k : Nat) (a0 : ByteArray) : Option (Int × Bool) := if a0.toList = ([48] : List UInt8) then (some (0, true)) else (if a0.toList = ([] : List UInt8) then (impl_number.j0 k a0 a0 false) else (if 0 < (a0.size : Int) then (impl_number.j0 k a0 a0 ((bt a0 0) == 45)) else (none)))
set_option maxHeartbeats 8000000 in
set_option maxRecDepth 100000 in
theorem impl_number.calls (k : Nat) (a0 : ByteArray) (r1 : Int) (r2 : Bool) (w : World) (h : impl_number.f k a0 = some (r1, r2)) :
  Calls Tryd.prog 33 #[.string a0] w fun e w' => e = .returned (.tuple #[.int .i64 r1, .bool r2]) ∧ Below w.heap.size w w' := by
 have HB := Aside0.mk (Below.refl w.heap.size w)
 have H : (if a0.toList = ([48] : List UInt8) then (some (0, true)) else (if a0.toList = ([] : List UInt8) then (impl_number.j0 k a0 a0 false) else (if 0 < (a0.size : Int) then (impl_number.j0 k a0 a0 ((bt a0 0) == 45)) else (none)))) = some (r1, r2) := h
 clear h
 by_cases c2 : a0.toList = ([48] : List UInt8)
 ·
  rw [if_pos c2] at H
  have c2b0 : (a0.toList == ([48] : List UInt8)) = true := beq_iff_eq.mpr c2
  have c2b1 : (a0.toList != ([48] : List UInt8)) = false := bne_eq_false_iff_eq.mpr c2
  clear c2
  simp only [Option.some.injEq, Prod.mk.injEq] at H
  obtain ⟨rfl, rfl⟩ := H
  go_enter Tryd.func33, Tryd.ntmps33
  go_wp2
  go_ret2
  exact ⟨by first | rfl | (simp [errW_none, errW_some] <;> rfl) | (simp [*, errW_none, errW_some] <;> rfl), Rgn.bq HB.out⟩
 ·
  rw [if_neg c2] at H
  have c2b0 : (a0.toList == ([48] : List UInt8)) = false := beq_eq_false_iff_ne.mpr c2
  have c2b1 : (a0.toList != ([48] : List UInt8)) = true := bne_iff_ne.mpr c2
  have HC3 := Aside0.mk H
  clear H
  go_enter Tryd.func33, Tryd.ntmps33
  go_upto_region 4 with (fail)
  go_cut [17] from 17 to 17 (fun v17 wc => ∃ (kq : Nat) (x17_2 : Bool), v17 = .bool x17_2 ∧ Aside0 (impl_number.j0 kq a0 a0 x17_2 = some (r1, r2)) ∧ Aside0 (kq ≤ k) ∧ Aside0 (Below w.heap.size w wc))
  case first =>
   have H := HC3.out
   clear HC3
   by_cases c4 : a0.toList = ([] : List UInt8)
   ·
    rw [if_pos c4] at H
    have c4b0 : (a0.toList == ([] : List UInt8)) = true := beq_iff_eq.mpr c4
    have c4b1 : (a0.toList != ([] : List UInt8)) = false := bne_eq_false_iff_eq.mpr c4
    clear c4
    (first | rw [c4b0] | (simp only [i64_w, i32_w]; rw [c4b0]) | skip)
    have H' := Aside0.mk H
    clear H
    go_wp2
    go_meet
    case rel => exact ⟨_, (false), (by first | rfl | (simp; done) | (simp [*]; done)), H', ⟨by first | omega | exact Nat.le_refl _⟩, ⟨Rgn.bq HB.out⟩⟩
   ·
    rw [if_neg c4] at H
    have c4b0 : (a0.toList == ([] : List UInt8)) = false := beq_eq_false_iff_ne.mpr c4
    have c4b1 : (a0.toList != ([] : List UInt8)) = true := bne_iff_ne.mpr c4
    (first | rw [c4b0] | (simp only [i64_w, i32_w]; rw [c4b0]) | skip)
    by_cases c5 : 0 < (a0.size : Int)
    ·
     rw [if_pos c5] at H
     have c5b0 : decide (0 < (a0.size : Int)) = true := decide_eq_true c5
     have c5b1 : decide (0 < a0.size) = true := decide_eq_true (by omega)
     clear c5
     have H' := Aside0.mk H
     clear H
     have p6 : 0 ≤ (0 : Int) := (by omega)
     have q6 : 0 < a0.size := (by have : (0 : Int) < (a0.size : Int) := of_decide_eq_true (by first | (with_reducible assumption) | assumption); omega)
     have hx6 : ∀ h : 0 < a0.size, ((a0[0]'h).toNat : Int) = bt a0 0 := bt_at a0 0
     clear p6
     have qi6 : (0 < (a0.size : Int)) = True := eq_true (of_decide_eq_true (by first | (with_reducible assumption) | assumption))
     replace q6 := eq_true q6
     go_wp2
     go_meet
     case rel => exact ⟨_, (((bt a0 0) == 45)), (by first | rfl | (simp; done) | (simp [*]; done)), H', ⟨by first | omega | exact Nat.le_refl _⟩, ⟨Rgn.bq HB.out⟩⟩
    ·
     rw [if_neg c5] at H
     exact absurd H (by simp)
  case rest =>
   clear HC3
   try clear c2
   try clear c2b0
   try clear c2b1
   obtain ⟨kq, x17_2, rfl, HA, HJ2, HB⟩ := hcut
   cases kq with
   | zero => exact absurd HA.out (by simp [impl_number.j0])
   | succ kj2 =>
    have H := HA.out
    clear HA
    simp only [impl_number.j0] at H
    have HC7 := Aside0.mk H
    clear H
    go_upto_if 17 with (fail)
    go_cut [4] from 4 to 4 (fun v4 wc => ∃ (kq : Nat) (x4_6 : ByteArray), v4 = .string x4_6 ∧ Aside0 (impl_number.j1 kq a0 x4_6 = some (r1, r2)) ∧ Aside0 (kq ≤ kj2) ∧ Aside0 (Below w.heap.size w wc))
    case first =>
     have H := HC7.out
     clear HC7
     by_cases c8 : x17_2 = true
     ·
      subst c8
      replace H := Rgn.ip H
      by_cases c9 : 1 ≤ (a0.size : Int)
      ·
       rw [if_pos c9] at H
       have c9b0 := eq_true c9
       have c9b1 : decide (1 ≤ (a0.size : Int)) = true := decide_eq_true c9
       clear c9
       have H' := Aside0.mk H
       clear H
       go_wp2
       go_meet
       case rel => exact ⟨_, (a0.extract 1 a0.size), (by first | rfl | (simp; done) | (simp [*]; done)), H', ⟨by have := HJ2.out; first | omega | exact Nat.le_refl _⟩, ⟨Rgn.bq HB.out⟩⟩
      ·
       rw [if_neg c9] at H
       exact absurd H (by simp)
     ·
      replace c8 := Bool.eq_false_iff.mpr c8
      subst c8
      replace H := Rgn.im H
      have H' := Aside0.mk H
      clear H
      go_wp2
      go_meet
      case rel => exact ⟨_, (a0), (by first | rfl | (simp; done) | (simp [*]; done)), H', ⟨by have := HJ2.out; first | omega | exact Nat.le_refl _⟩, ⟨Rgn.bq HB.out⟩⟩
    case rest =>
     clear HC7
     try clear c2
     try clear c2b0
     try clear c2b1
     obtain ⟨kq, x4_6, rfl, HA, HJ6, HB⟩ := hcut
     cases kq with
     | zero => exact absurd HA.out (by simp [impl_number.j1])
     | succ kj6 =>
      have H := HA.out
      clear HA
      simp only [impl_number.j1] at H
      have HC10 := Aside0.mk H
      clear H
      go_upto_region 6 with (fail)
      go_cut [32] from 32 to 32 (fun v32 wc => ∃ (kq : Nat) (x32_9 : Bool), v32 = .bool x32_9 ∧ Aside0 (impl_number.j2 kq a0 x4_6 x32_9 = some (r1, r2)) ∧ Aside0 (kq ≤ kj6) ∧ Aside0 (Below w.heap.size w wc))
      case first =>
       have H := HC10.out
       clear HC10
       by_cases c11 : (x4_6.size : Int) < 1
       ·
        rw [if_pos c11] at H
        have c11b0 : decide ((x4_6.size : Int) < 1) = true := decide_eq_true c11
        have c11b1 : decide (x4_6.size < 1) = true := decide_eq_true (by omega)
        clear c11
        (first | rw [c11b0] | (simp only [i64_w, i32_w]; rw [c11b0]) | skip)
        have H' := Aside0.mk H
        clear H
        go_wp2
        go_meet
        case rel => exact ⟨_, (true), (by first | rfl | (simp; done) | (simp [*]; done)), H', ⟨by have := HJ2.out; have := HJ6.out; first | omega | exact Nat.le_refl _⟩, ⟨Rgn.bq HB.out⟩⟩
       ·
        rw [if_neg c11] at H
        have c11b0 : decide ((x4_6.size : Int) < 1) = false := decide_eq_false c11
        have c11b1 : decide (x4_6.size < 1) = false := decide_eq_false (by omega)
        clear c11
        (first | rw [c11b0] | (simp only [i64_w, i32_w]; rw [c11b0]) | skip)
        by_cases c12 : (x4_6.size : Int) > 9
        ·
         rw [if_pos c12] at H
         have c12b0 : decide (9 < (x4_6.size : Int)) = true := decide_eq_true c12
         have c12b1 : decide (9 < x4_6.size) = true := decide_eq_true (by omega)
         clear c12
         have H' := Aside0.mk H
         clear H
         go_wp2
         go_meet
         case rel => exact ⟨_, (true), (by first | rfl | (simp; done) | (simp [*]; done)), H', ⟨by have := HJ2.out; have := HJ6.out; first | omega | exact Nat.le_refl _⟩, ⟨Rgn.bq HB.out⟩⟩
        ·
         rw [if_neg c12] at H
         have c12b0 : decide (9 < (x4_6.size : Int)) = false := decide_eq_false c12
         have c12b1 : decide (9 < x4_6.size) = false := decide_eq_false (by omega)
         clear c12
         by_cases c13 : 0 < (x4_6.size : Int)
         ·
          rw [if_pos c13] at H
          have c13b0 : decide (0 < (x4_6.size : Int)) = true := decide_eq_true c13
          have c13b1 : decide (0 < x4_6.size) = true := decide_eq_true (by omega)
          clear c13
          have H' := Aside0.mk H
          clear H
          have p14 : 0 ≤ (0 : Int) := (by omega)
          have q14 : 0 < x4_6.size := (by have : (0 : Int) < (x4_6.size : Int) := of_decide_eq_true (by first | (with_reducible assumption) | assumption); omega)
          have hx14 : ∀ h : 0 < x4_6.size, ((x4_6[0]'h).toNat : Int) = bt x4_6 0 := bt_at x4_6 0
          clear p14
          have qi14 : (0 < (x4_6.size : Int)) = True := eq_true (of_decide_eq_true (by first | (with_reducible assumption) | assumption))
          replace q14 := eq_true q14
          go_wp2
          go_meet
          case rel => exact ⟨_, (((bt x4_6 0) == 48)), (by first | rfl | (simp; done) | (simp [*]; done)), H', ⟨by have := HJ2.out; have := HJ6.out; first | omega | exact Nat.le_refl _⟩, ⟨Rgn.bq HB.out⟩⟩
         ·
          rw [if_neg c13] at H
          exact absurd H (by simp)
      case rest =>
       clear HC10
       try clear c2
       try clear c2b0
       try clear c2b1
       obtain ⟨kq, x32_9, rfl, HA, HJ9, HB⟩ := hcut
       cases kq with
       | zero => exact absurd HA.out (by simp [impl_number.j2])
       | succ kj9 =>
        have H := HA.out
        clear HA
        simp only [impl_number.j2] at H
        by_cases c15 : x32_9 = true
        ·
         subst c15
         replace H := Rgn.ip H
         simp only [Option.some.injEq, Prod.mk.injEq] at H
         obtain ⟨rfl, rfl⟩ := H
         go_wp2
         go_ret2
         exact ⟨by first | rfl | (simp [errW_none, errW_some] <;> rfl) | (simp [*, errW_none, errW_some] <;> rfl), Rgn.bq HB.out⟩
        ·
         replace c15 := Bool.eq_false_iff.mpr c15
         subst c15
         replace H := Rgn.im H
         have H' := Aside0.mk H
         clear H
         go_wp2
         go_loopg [35] kj9 (fun kq v35 w' => ∃ (x35_4 : Int), v35 = .int .i64 x35_4 ∧ Aside0 (impl_number.l0 kq a0 x4_6 (x4_6.size : Int) x35_4 = some (r1, r2)) ∧ Aside0 (kq ≤ kj9) ∧ Aside0 (Below w.heap.size w w'))
         case atStart => exact ⟨(0), (by first | rfl | (simp; done) | (simp [*]; done)), H', ⟨Nat.le_refl _⟩, ⟨Rgn.bq HB.out⟩⟩
         case round =>
          clear H'
          try clear c2
          try clear c2b0
          try clear c2b1
          try clear c15
          obtain ⟨x35_4, rfl, HA, HK4, HB⟩ := hrel
          cases gk with
          | zero => exact absurd HA.out (by simp [impl_number.l0])
          | succ k4 =>
           have H := HA.out
           clear HA
           simp only [impl_number.l0] at H
           by_cases c16 : x35_4 < (x4_6.size : Int)
           ·
            rw [if_pos c16] at H
            have c16b0 : decide (x35_4 < (x4_6.size : Int)) = true := decide_eq_true c16
            clear c16
            by_cases c17 : 0 ≤ x35_4
            ·
             rw [if_pos c17] at H
             have c17b0 : decide (0 ≤ x35_4) = true := decide_eq_true c17
             clear c17
             by_cases c18 : x35_4 < (x4_6.size : Int)
             ·
              rw [if_pos c18] at H
              have c18b0 : decide (x35_4 < (x4_6.size : Int)) = true := decide_eq_true c18
              clear c18
              by_cases c20 : (bt x4_6 x35_4) < 48
              ·
               rw [if_pos c20] at H
               have c20b0 : decide ((bt x4_6 x35_4) < 48) = true := decide_eq_true c20
               clear c20
               simp only [Option.some.injEq, Prod.mk.injEq] at H
               obtain ⟨rfl, rfl⟩ := H
               have p19 : 0 ≤ (x35_4 : Int) := of_decide_eq_true (by first | (with_reducible assumption) | assumption)
               have q19 : x35_4 < (x4_6.size : Int) := of_decide_eq_true (by first | (with_reducible assumption) | assumption)
               have hx19 := bt_at x4_6 x35_4
               replace p19 := eq_true p19
               replace q19 := eq_true q19
               go_wp2
               go_ret2
               exact ⟨by first | rfl | (simp [errW_none, errW_some] <;> rfl) | (simp [*, errW_none, errW_some] <;> rfl), Rgn.bq HB.out⟩
              ·
               rw [if_neg c20] at H
               have c20b0 : decide ((bt x4_6 x35_4) < 48) = false := decide_eq_false c20
               clear c20
               by_cases c22 : (bt x4_6 x35_4) > 57
               ·
                rw [if_pos c22] at H
                have c22b0 : decide (57 < (bt x4_6 x35_4)) = true := decide_eq_true c22
                clear c22
                simp only [Option.some.injEq, Prod.mk.injEq] at H
                obtain ⟨rfl, rfl⟩ := H
                have p19 : 0 ≤ (x35_4 : Int) := of_decide_eq_true (by first | (with_reducible assumption) | assumption)
                have q19 : x35_4 < (x4_6.size : Int) := of_decide_eq_true (by first | (with_reducible assumption) | assumption)
                have hx19 := bt_at x4_6 x35_4
                replace p19 := eq_true p19
                replace q19 := eq_true q19
                have p21 : 0 ≤ (x35_4 : Int) := of_decide_eq_true (by first | (with_reducible assumption) | assumption)
                have q21 : x35_4 < (x4_6.size : Int) := of_decide_eq_true (by first | (with_reducible assumption) | assumption)
                have hx21 := bt_at x4_6 x35_4
                replace p21 := eq_true p21
                replace q21 := eq_true q21
                go_wp2
                go_ret2
                exact ⟨by first | rfl | (simp [errW_none, errW_some] <;> rfl) | (simp [*, errW_none, errW_some] <;> rfl), Rgn.bq HB.out⟩
               ·
                rw [if_neg c22] at H
                have c22b0 : decide (57 < (bt x4_6 x35_4)) = false := decide_eq_false c22
                clear c22
                have H' := Aside0.mk H
                clear H
                have p19 : 0 ≤ (x35_4 : Int) := of_decide_eq_true (by first | (with_reducible assumption) | assumption)
                have q19 : x35_4 < (x4_6.size : Int) := of_decide_eq_true (by first | (with_reducible assumption) | assumption)
                have hx19 := bt_at x4_6 x35_4
                replace p19 := eq_true p19
                replace q19 := eq_true q19
                have p21 : 0 ≤ (x35_4 : Int) := of_decide_eq_true (by first | (with_reducible assumption) | assumption)
                have q21 : x35_4 < (x4_6.size : Int) := of_decide_eq_true (by first | (with_reducible assumption) | assumption)
                have hx21 := bt_at x4_6 x35_4
                replace p21 := eq_true p21
                replace q21 := eq_true q21
                go_wp2
                go_roundg k4
                case measure => have := HJ2.out; have := HJ6.out; have := HJ9.out; have := HK4.out; omega
                case rel => exact ⟨(wrap64 (x35_4 + 1)), (by first | rfl | (simp; done) | (simp [*]; done)), H', ⟨by have := HJ2.out; have := HJ6.out; have := HJ9.out; have := HK4.out; omega⟩, ⟨Rgn.bq HB.out⟩⟩
             ·
              rw [if_neg c18] at H
              exact absurd H (by simp)
            ·
             rw [if_neg c17] at H
             exact absurd H (by simp)
           ·
            rw [if_neg c16] at H
            have c16b0 : decide (x35_4 < (x4_6.size : Int)) = false := decide_eq_false c16
            clear c16
            replace H := Option.bind_eq_some_iff.mp H
            obtain ⟨⟨t278, t279⟩, A230, H⟩ := H
            replace H : (some (t278, true)) = some (r1, r2) := H
            have A23 := Aside0.mk A230
            clear A230
            simp only [Option.some.injEq, Prod.mk.injEq] at H
            obtain ⟨rfl, rfl⟩ := H
            go_wp2_with (first | ((with_reducible refine gate_callee (f := 64) rfl ?_); refine Rgn.gl (some 51) Tryd.func64 #[.string a0, .int .i64 10, .int .i64 64] ?_; (with_reducible refine (strconv_ParseInt.calls a0 10 64 t278 t279 _ A23.out).mono ?_); rintro e w24 ⟨rfl, hb⟩; refine ⟨_, rfl, ?_⟩; replace HB := Aside0.mk (below_step (Rgn.bq HB.out) hb); (try clear hb); (try simp only [errW_none, errW_some])))
            go_ret2
            exact ⟨by first | rfl | (simp [errW_none, errW_some] <;> rfl) | (simp [*, errW_none, errW_some] <;> rfl), Rgn.bq HB.out⟩

/-! ### impl_plainByte: function 76 -/
def impl_plainByte.f (a0 : Int) : Option (Bool) := if a0 ≥ 33 then (some (decide (a0 ≤ 126))) else (some false)
set_option maxHeartbeats 8000000 in
set_option maxRecDepth 100000 in
theorem impl_plainByte.calls (a0 : Int) (r : Bool) (w : World) (h : impl_plainByte.f a0 = some r) :
  Calls Tryd.prog 76 #[.int .u8 a0] w fun e w' => e = .returned (.bool r) ∧ Drawn0 w w' := by
 have H : (if a0 ≥ 33 then (some (decide (a0 ≤ 126))) else (some false)) = some r := h
 clear h
 by_cases c2 : a0 ≥ 33
 ·
  rw [if_pos c2] at H
  have c2b0 : decide (33 ≤ a0) = true := decide_eq_true c2
  clear c2
  obtain rfl := Option.some.inj H
  go_enter Tryd.func76, Tryd.ntmps76
  go_wp2
  go_ret
  exact ⟨by first | rfl | (simp; done) | (simp [*]; done), by repeat (first | exact Drawn0.refl _ | apply Drawn0.step)⟩
 ·
  rw [if_neg c2] at H
  have c2b0 : decide (33 ≤ a0) = false := decide_eq_false c2
  clear c2
  obtain rfl := Option.some.inj H
  go_enter Tryd.func76, Tryd.ntmps76
  go_wp2
  go_ret
  exact ⟨by first | rfl | (simp; done) | (simp [*]; done), by repeat (first | exact Drawn0.refl _ | apply Drawn0.step)⟩

/-! ### impl_Quote: function 54 -/
section
open Go.Proofs.YtkehfdadplpaeaaDoor.Qt
/-! The builder's methods, walked at this program: copyCheck and WriteByte; String by the shelf's contract. -/
theorem bld_used (b : Nat) (w : World) (h0 : w.cell? ⟨b, 0, none⟩ = some (.pointer (some ⟨b, 0, none⟩))) :
    Calls Tryd.prog 92 #[.pointer (some ⟨b, 0, none⟩)] w fun e w' => e = .returned (.tuple #[]) ∧ w' = w := by
  have hs : (Tryd.prog.info? 119).map (·.size) = some 2 := by kernel_rfl
  obtain ⟨j, hj, _⟩ := Option.map_eq_some_iff.1 hs
  clear hs
  have hq := Lib.run_neq_ptr_same (P := Tryd.prog) w ⟨b, 0, none⟩ Tryd.underlying117 hj
  go_enter Tryd.func92, Tryd.ntmps92
  go_wp2
  go_end0
  exact ⟨rfl, rfl⟩
theorem bld_fresh (b : Nat) (w : World) (h0 : w.cell? ⟨b, 0, none⟩ = some (.pointer none)) (hsh : w.shape? b = some (119, 2)) (hfz : w.frozen? ⟨b, 0, none⟩ = false) :
    Calls Tryd.prog 92 #[.pointer (some ⟨b, 0, none⟩)] w fun e w' => e = .returned (.tuple #[]) ∧ w' = w.setCell ⟨b, 0, none⟩ (.pointer (some ⟨b, 0, none⟩)) := by
  have hs : (Tryd.prog.info? 119).map (·.size) = some 2 := by kernel_rfl
  obtain ⟨j, hj, hjs⟩ := Option.map_eq_some_iff.1 hs
  clear hs
  have c1 := Lib.run_to_unsafe w ⟨b, 0, none⟩ Tryd.underlying117 Tryd.underlying150 hj (by rw [hjs]; decide) hsh (Nat.zero_lt_succ 1)
  have c2 := Lib.run_from_unsafe w ⟨b, 0, none⟩ Tryd.underlying150 Tryd.underlying117 hj hsh (by kernel_rfl)
  have hx := @run_callFunc_extern Tryd.prog 111 _ Extern.AbiNoEscape.same Tryd.func111 (by kernel_rfl) (by kernel_rfl) (by kernel_rfl) (by kernel_rfl)
  have hn := fun x => Lib.run_noEscape (P := Tryd.prog) w x
  go_enter Tryd.func92, Tryd.ntmps92
  go_wp2
  go_end0
  exact ⟨rfl, rfl⟩
theorem bld_check (B b : Nat) (bs : List Value) (w : World) (h : Lib.IsBuilder 119 5 B b bs w) :
    Calls Tryd.prog 92 #[.pointer (some ⟨b, 0, none⟩)] w fun e w' => e = .returned (.tuple #[]) ∧ (Lib.BuilderAt 119 5 B b (.pointer (some ⟨b, 0, none⟩)) bs w' ∧ Below B w w') := by
  rcases h with h | h
  · exact (bld_fresh b w h.cell0 h.shape h.frozen0).mono fun e w' ⟨he, hw⟩ => by subst hw; exact ⟨he, h.used _, (Below.refl B w).setCell (p := ⟨b, 0, none⟩) h.1 _⟩
  · exact (bld_used b w h.cell0).mono fun e w' ⟨he, hw⟩ => by subst hw; exact ⟨he, h, Below.refl B _⟩
set_option maxHeartbeats 4000000 in
set_option maxRecDepth 100000 in
theorem bld_byte (B b : Nat) (bs : List Value) (c : Int) (w : World) (h : Lib.IsBuilder 119 5 B b bs w) (hlen : bs.length + 1 ≤ 140737488355328) (hBw : B ≤ w.heap.size) :
    Calls Tryd.prog 77 #[.pointer (some ⟨b, 0, none⟩), .int .u8 c] w fun e w' => e = .returned .nilIface ∧ (Lib.IsBuilder 119 5 B b (bs ++ [.int .u8 c]) w' ∧ Below B w w') := by
  have hinf : (Tryd.prog.info? 5).map (fun i => (i.zero, i.size, i.bytes)) = some (some (.int .u8 0), 1, 1) := by kernel_rfl
  obtain ⟨i0, hi, hz0, hz1, hz2⟩ := info_parts hinf
  go_enter Tryd.func77, Tryd.ntmps77
  go_wp2_with (go_at_call 92; refine (bld_check B b bs _ h).mono ?_)
  rintro e w1 ⟨rfl, h1, hb1⟩
  obtain ⟨hB, v, hbk, hown, hne⟩ := h1
  have c0 : w1.cell? ⟨b, 0, none⟩ = some (.pointer (some ⟨b, 0, none⟩)) := by rw [Lib.cell_of_heap hbk]; rfl
  have c1 : w1.cell? ⟨b, 1, none⟩ = some v := by rw [Lib.cell_of_heap hbk]; rfl
  go_wp2_with (at_builtin; refine wpList_append_own _ rfl _ _ 22 rfl B 5 i0 (.int .u8 0) 1 1 Tryd.underlying22 hi hz0 hz1 hz2 rfl (by decide) _ _ _ rfl (hown.alloc _) ⟨w1.heap.size, 0, none⟩ 1 1 [.int .u8 c] rfl rfl ?c1 ?c2 ?c3 ?c4 ?c5 ?_)
  case c1 =>
    intro j u hj
    match j, hj with
    | 0, hj => simp at hj; subst hj; simp [Addr.add]
  case c2 => intro u hu; simp at hu; subst hu; rfl
  case c3 => unfold maxLen; omega
  case c4 => omega
  case c5 => have := hb1.size; simp; omega
  intro v' w2 hown' hgrow _
  have hlt := blk_lt hbk
  have hb2 : w2.heap[b]? = some (.cells #[.pointer (some ⟨b, 0, none⟩), v] 119 (0, 0)) := by
    rw [hgrow.block b (by simp; omega) (fun e => hne e.symm), Lib.alloc_old w1 _ b hlt]
    exact hbk
  have d0 : w2.cell? ⟨b, 0, none⟩ = some (.pointer (some ⟨b, 0, none⟩)) := by rw [Lib.cell_of_heap hb2]; rfl
  have d1 : w2.cell? ⟨b, 1, none⟩ = some v := by rw [Lib.cell_of_heap hb2]; rfl
  have f1 : w2.frozen? ⟨b, 1, none⟩ = false := Lib.frozen_of_heap hb2 1
  obtain ⟨g, cap, rfl⟩ : ∃ g cap, v' = .slice (some ⟨g, 0, none⟩) (bs.length + 1) cap := by
    rcases hown'.2 with ⟨_, h0⟩ | ⟨g, cap, cur, hv, _⟩
    · omega
    · exact ⟨g, cap, hv⟩
  go_wp2
  go_ret
  refine ⟨rfl, .inr ?_, ?_⟩
  · exact Lib.BuilderAt.put (T := 119) (e := 5) hB hb2 (bs' := bs ++ [.int .u8 c]) (by simpa using hown') (by decide)
  · exact ((hb1.alloc (by have := hb1.size; omega) _).grown hgrow (by have := hb1.size; simp; omega) (fun k hk => (hown.lt k hk).1)).setCell (p := ⟨b, 1, none⟩) hB _
/-- impl.Quote. -/
def impl_Quote.f (s : ByteArray) : Option ByteArray := qF s
theorem impl_Quote.plain (c : UInt8) (h : qp c = true) : impl_plainByte.f (c.toNat : Int) = some true ∧ ((c.toNat : Int) != 37) = true := by
  unfold qp at h
  simp only [Bool.and_eq_true, decide_eq_true_eq] at h
  exact ⟨by unfold impl_plainByte.f; rw [if_pos (by omega), decide_eq_true (by omega)], bne_iff_ne.mpr (by omega)⟩
theorem impl_Quote.other (c : UInt8) (h : ¬ qp c = true) : (impl_plainByte.f (c.toNat : Int) = some true ∧ ((c.toNat : Int) != 37) = false) ∨ impl_plainByte.f (c.toNat : Int) = some false := by
  unfold qp at h
  simp only [Bool.and_eq_true, decide_eq_true_eq] at h
  unfold impl_plainByte.f
  by_cases h1 : (c.toNat : Int) ≥ 33
  · rw [if_pos h1]
    by_cases h2 : (c.toNat : Int) ≤ 126
    · rw [decide_eq_true h2]
      exact .inl ⟨rfl, bne_eq_false_iff_eq.mpr (by omega)⟩
    · rw [decide_eq_false h2]; exact .inr rfl
  · rw [if_neg h1]; exact .inr rfl
set_option maxHeartbeats 8000000 in
set_option maxRecDepth 100000 in
theorem impl_Quote.calls (s : ByteArray) (r : ByteArray) (w : World) (h : impl_Quote.f s = some r) :
    Calls Tryd.prog 54 #[.string s] w fun e w' => e = .returned (.string r) ∧ Below w.heap.size w w' := by
  unfold impl_Quote.f qF at h
  by_cases c1 : s.size > 65536
  · rw [if_pos c1] at h
    obtain rfl := Option.some.inj h
    have c1b : decide (65536 < (s.size : Int)) = true := decide_eq_true (by omega)
    have c1c : decide (65536 < s.size) = true := decide_eq_true (by omega)
    clear h c1
    go_enter Tryd.func54, Tryd.ntmps54
    go_wp2
    go_ret
    exact ⟨rfl, Below.refl _ _⟩
  rw [if_neg c1] at h
  have c1b : decide (65536 < (s.size : Int)) = false := decide_eq_false (by omega)
  have c1c : decide (65536 < s.size) = false := decide_eq_false (by omega)
  have HL := Aside0.mk (show s.size ≤ 65536 by omega)
  clear c1
  by_cases c2 : s.size = 0
  · rw [if_pos c2] at h
    obtain rfl := Option.some.inj h
    obtain rfl : s = ⟨#[]⟩ := by
      rcases s with ⟨a⟩
      have : a = #[] := Array.eq_empty_of_size_eq_zero c2
      rw [this]
    clear h c2 c1b c1c
    go_enter Tryd.func54, Tryd.ntmps54
    go_wp2
    go_ret
    exact ⟨rfl, Below.refl _ _⟩
  rw [if_neg c2] at h
  obtain rfl := Option.some.inj h
  have c2b : s.toList.isEmpty = false := by
    rw [Lib.toList_data]
    cases e : s.data.toList with
    | nil => exact absurd (by rw [← data_length, e]; rfl) c2
    | cons x l => rfl
  clear h c2
  go_enter Tryd.func54, Tryd.ntmps54
  go_wp2
  go_loopw [13] (fun v13 w' => ∃ k : Nat, v13 = .int .i64 (k : Int) ∧ Aside0 (k ≤ s.size) ∧ Aside0 (Lib.IsBuilder 119 5 w.heap.size w.heap.size (Lib.byteCells (ql (s.data.toList.take k))) w') ∧ Aside0 (Below w.heap.size w w')) (fun v13 _ => s.size - (intOf v13).toNat)
  case atStart =>
    refine ⟨0, rfl, ⟨Nat.zero_le _⟩, ⟨.inl ⟨Nat.le_refl _, .slice none 0 0, ?_, own_nil _ _ _ _, by simp [Value.ownBlock]⟩⟩, ⟨below_alloc (Below.refl _ _) _⟩⟩
    exact Array.getElem?_push_size
  case round =>
    obtain ⟨k, rfl, HK, HI, HB⟩ := hrel
    by_cases c3 : k < s.size
    rotate_left
    · have c3b : decide ((k : Int) < (s.size : Int)) = false := decide_eq_false (by omega)
      have c3c : decide (k < s.size) = false := decide_eq_false c3
      have hI := HI.out
      rw [show k = s.size by have := HK.out; omega, take_all] at hI
      have HI' := Aside0.mk hI
      clear hI HI c3
      go_wp2_with (go_at_call 78; refine (Tryd.Builder_String_any w.heap.size w.heap.size _ _ HI'.out HB.out.size).mono ?_; rintro e w2 ⟨rfl, hb⟩; have HB2 := Aside0.mk (Below.trans HB.out hb); clear HB hb)
      go_ret
      exact ⟨rfl, HB2.out⟩
    · have c3b : decide ((k : Int) < (s.size : Int)) = true := decide_eq_true (by omega)
      have c3c : decide (k < s.size) = true := decide_eq_true c3
      have HN := Aside0.mk (show (Lib.byteCells (ql (s.data.toList.take k))).length + 3 ≤ 140737488355328 by
        have h1 := ql_len (s.data.toList.take k)
        have h2 : (s.data.toList.take k).length ≤ k := List.length_take_le _ _
        have h3 := HL.out
        simp only [Lib.byteCells, List.length_map]; omega)
      have HS := Aside0.mk (ql_snoc s k c3)
      have hk : k ≤ 65536 := by have := HL.out; omega
      by_cases c4 : qp s[k] = true
      · have hp := impl_Quote.plain _ c4
        have HP := Aside0.mk hp.1
        have c5 := hp.2
        have HQ := Aside0.mk (show qb s[k] = [s[k]] from if_pos c4)
        clear hp c4
        go_wp2_with (first
          | (go_at_call 76; refine (impl_plainByte.calls _ true _ HP.out).mono ?_; rintro e w1 ⟨rfl, hd⟩; obtain ⟨nq, rfl⟩ := hd.out; have HB0 := Aside0.mk (pw_below_drewN HB.out nq); have HI0 := Aside0.mk (show Lib.IsBuilder 119 5 w.heap.size w.heap.size (Lib.byteCells (ql (s.data.toList.take k))) (wr.drewN nq) from HI.out); clear hd HP HI HB)
          | (go_at_call 77; refine (bld_byte w.heap.size w.heap.size _ _ _ HI0.out (by have := HN.out; omega) HB0.out.size).mono ?_; rintro e w2 ⟨rfl, hi, hb⟩; have HI1 := Aside0.mk hi; have HB1 := Aside0.mk (Below.trans HB0.out hb); clear HI0 HB0 hi hb)
          | fail)
        go_roundw
        case rel => exact ⟨k + 1, by go_num, ⟨by omega⟩, ⟨by rw [HS.out, HQ.out]; simpa [Lib.byteCells] using HI1.out⟩, HB1⟩
        case measure => simp [intOf]; omega
      · have HQ := Aside0.mk (show qb s[k] = [37, hx (s[k].toNat / 16), hx (s[k].toNat % 16)] from if_neg c4)
        have hc := impl_Quote.other _ c4
        clear c4
        have hb8 : s[k].toNat < 256 := UInt8.toNat_lt _
        rcases hc with ⟨h1, c5⟩ | h1
        · have HP := Aside0.mk h1
          clear h1
          go_wp2_with (first
            | (go_at_call 76; refine (impl_plainByte.calls _ true _ HP.out).mono ?_; rintro e w1 ⟨rfl, hd⟩; obtain ⟨nq, rfl⟩ := hd.out; have HB0 := Aside0.mk (pw_below_drewN HB.out nq); have HI0 := Aside0.mk (show Lib.IsBuilder 119 5 w.heap.size w.heap.size (Lib.byteCells (ql (s.data.toList.take k))) (wr.drewN nq) from HI.out); clear hd HP HI HB)
            | (go_at_call 77; refine (bld_byte w.heap.size w.heap.size _ 37 _ HI0.out (by have := HN.out; omega) HB0.out.size).mono ?_; rintro e w2 ⟨rfl, hi, hb⟩; have HI1 := Aside0.mk hi; have HB1 := Aside0.mk (Below.trans HB0.out hb); clear HI0 HB0 hi hb)
            | (go_at_call 77; refine (bld_byte w.heap.size w.heap.size _ _ _ HI1.out (by have := HN.out; simp only [List.length_append, List.length_singleton]; omega) HB1.out.size).mono ?_; rintro e w3 ⟨rfl, hi, hb⟩; have HI2 := Aside0.mk hi; have HB2 := Aside0.mk (Below.trans HB1.out hb); clear HI1 HB1 hi hb)
            | (go_at_call 77; refine (bld_byte w.heap.size w.heap.size _ _ _ HI2.out (by have := HN.out; simp only [List.length_append, List.length_singleton]; omega) HB2.out.size).mono ?_; rintro e w4 ⟨rfl, hi, hb⟩; have HI3 := Aside0.mk hi; have HB3 := Aside0.mk (Below.trans HB2.out hb); clear HI2 HB2 hi hb)
            | fail)
          have h3 := HI3.out
          rw [hex_at _ (by omega), hex_at _ (by omega)] at h3
          go_roundw
          case rel => exact ⟨k + 1, by go_num, ⟨by omega⟩, ⟨by rw [HS.out, HQ.out]; simpa [Lib.byteCells] using h3⟩, HB3⟩
          case measure => simp [intOf]; omega
        · have HP := Aside0.mk h1
          clear h1
          go_wp2_with (first
            | (go_at_call 76; refine (impl_plainByte.calls _ false _ HP.out).mono ?_; rintro e w1 ⟨rfl, hd⟩; obtain ⟨nq, rfl⟩ := hd.out; have HB0 := Aside0.mk (pw_below_drewN HB.out nq); have HI0 := Aside0.mk (show Lib.IsBuilder 119 5 w.heap.size w.heap.size (Lib.byteCells (ql (s.data.toList.take k))) (wr.drewN nq) from HI.out); clear hd HP HI HB)
            | (go_at_call 77; refine (bld_byte w.heap.size w.heap.size _ 37 _ HI0.out (by have := HN.out; omega) HB0.out.size).mono ?_; rintro e w2 ⟨rfl, hi, hb⟩; have HI1 := Aside0.mk hi; have HB1 := Aside0.mk (Below.trans HB0.out hb); clear HI0 HB0 hi hb)
            | (go_at_call 77; refine (bld_byte w.heap.size w.heap.size _ _ _ HI1.out (by have := HN.out; simp only [List.length_append, List.length_singleton]; omega) HB1.out.size).mono ?_; rintro e w3 ⟨rfl, hi, hb⟩; have HI2 := Aside0.mk hi; have HB2 := Aside0.mk (Below.trans HB1.out hb); clear HI1 HB1 hi hb)
            | (go_at_call 77; refine (bld_byte w.heap.size w.heap.size _ _ _ HI2.out (by have := HN.out; simp only [List.length_append, List.length_singleton]; omega) HB2.out.size).mono ?_; rintro e w4 ⟨rfl, hi, hb⟩; have HI3 := Aside0.mk hi; have HB3 := Aside0.mk (Below.trans HB2.out hb); clear HI2 HB2 hi hb)
            | fail)
          have h3 := HI3.out
          rw [hex_at _ (by omega), hex_at _ (by omega)] at h3
          go_roundw
          case rel => exact ⟨k + 1, by go_num, ⟨by omega⟩, ⟨by rw [HS.out, HQ.out]; simpa [Lib.byteCells] using h3⟩, HB3⟩
          case measure => simp [intOf]; omega
end


/-! ### strings_IndexByte: function 65 -/
/-- strings.IndexByte: the place of the first such byte, or -1. -/
def strings_IndexByte.f (s : ByteArray) (c : Int) : Option Int := some (Lib.indexByte s.data.toList c.toNat.toUInt8)
theorem strings_IndexByte.calls (s : ByteArray) (c : Int) (r : Int) (w : World) (h : strings_IndexByte.f s c = some r) :
    Calls Tryd.prog 65 #[.string s, .int .u8 c] w fun e w' => e = .returned (.int .i64 r) ∧ Drawn0 w w' := by
  obtain rfl := Option.some.inj h
  exact (Tryd.strings_IndexByte s c w).mono fun e w' ⟨he, hw⟩ => by subst hw; exact ⟨he, Drawn0.refl _⟩


end Go.Proofs.YtkehfdadplpaeaaDoor.PFnExactParseLine
