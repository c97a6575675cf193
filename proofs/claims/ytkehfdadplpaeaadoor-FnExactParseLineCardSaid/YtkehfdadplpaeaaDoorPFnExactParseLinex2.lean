-- written by a program of this session (wip/src/print2.py)
import Derived.Test.YtkehfdadplpaeaaDoorPFnExactParseLinex0
namespace Go.Proofs.YtkehfdadplpaeaaDoor.PFnExactParseLine
open Go.RowKit Go.Proofs.YtkehfdadplpaeaaDoorW.PrintWords Go.Proofs.YtkehfdadplpaeaaDoorW.PrintLast Go.Proofs.YtkehfdadplpaeaaDoorW.PrintMore
attribute [local go_sem] max2_int min2_int max_two min_two max_three min_three max_four min_four   -- for this text's walks alone
set_option linter.unusedVariables false
set_option linter.unusedSimpArgs false

/-! ### spec_l10Cut: function 26 -/
def spec_l10Cut.l0 : Nat → ByteArray → Int → List ByteArray → Int → Int → Option (List ByteArray)
 | 0, _, _, _, _, _ => none
 | k + 1, x0, x1, x5, x6, x7 => if x7 < (x0.size : Int) then (if 0 ≤ x7 then (if (bt x0 x7) = x1 then (if 0 ≤ x6 then (if x6 ≤ x7 then (if x7 ≤ (x0.size : Int) then (if x5.length < 8796093022208 then (spec_l10Cut.l0 k x0 x1 (x5 ++ [x0.extract (x6 : Int).toNat (x7 : Int).toNat]) (wrap64 (x7 + 1)) (wrap64 (x7 + 1))) else (none)) else (none)) else (none)) else (none)) else (spec_l10Cut.l0 k x0 x1 x5 x6 (wrap64 (x7 + 1)))) else (none)) else (if 0 ≤ x6 then (if x6 ≤ (x0.size : Int) then (if x5.length < 8796093022208 then (some (x5 ++ [x0.extract (x6 : Int).toNat x0.size])) else (none)) else (none)) else (none))
def spec_l10Cut.f (k : Nat) (a0 : ByteArray) (a1 : Int) : Option (List ByteArray) := spec_l10Cut.l0 k a0 a1 (([] : List ByteArray)) 0 0
set_option maxHeartbeats 8000000 in
set_option maxRecDepth 100000 in
theorem spec_l10Cut.calls (k : Nat) (a0 : ByteArray) (a1 : Int) (r : List ByteArray) (w : World) (h : spec_l10Cut.f k a0 a1 = some r) :
  Calls Tryd.prog 26 #[.string a0, .int .u8 a1] w fun e w' => ∃ v0_ : Value, e = .returned (v0_) ∧ Kd.R Kd.string 9 w' w.heap.size (fun _ => True) v0_ r ∧ Below w.heap.size w w' := by
 have HB := Aside0.mk (Below.refl w.heap.size w)
 have H : (spec_l10Cut.l0 k a0 a1 (([] : List ByteArray)) 0 0) = some r := h
 clear h
 obtain ⟨y101, hy101⟩ : ∃ y_ : List ByteArray, y_ = (([] : List ByteArray)) := ⟨_, rfl⟩
 replace H : (spec_l10Cut.l0 k a0 a1 y101 0 0) = some r := by first | (rw [hy101]; with_reducible exact H) | (have H2_ := (Option.bind_some _ _).symm.trans H; rw [hy101]; with_reducible exact H2_) | (have H2_ := (Option.bind_some _ _).symm.trans H; with_reducible exact H2_) | with_reducible exact H | (rw [hy101]; exact H) | exact H
 have Ny101 := Aside0.mk hy101
 clear hy101
 have H' := Aside0.mk H
 clear H
 go_enter Tryd.func26, Tryd.ntmps26
 go_wp2_with (first | ((with_reducible refine gate_dst (N := 8) rfl ?_); refine Kd.R_lit Kd.string _ 9 ?hg (N := 8) ?hd (xs := ([] : List ByteArray)) (inner := []) (ok := fun _ => True) (okp := fun _ => True) ?hr ?hp (fun _ hk => hk) trivial (Below.refl _ _) (Nat.le_refl _) (by simp) ?_; (case hd => rfl); (case hg => rfl); (case hr => first | (go_simp; done) | (go_simp; rfl)); (case hp => exact (Reps.none _ _)); intro v102 w3 ho4 hb hg_ hnew_; clear hg_ hnew_; (first | rw [← Ny101.out] at ho4 | (simp only [Int.reduceToNat] at ho4; rw [← Ny101.out] at ho4)); have HO103 := Aside0.mk (Kd.R_lower ho4 (below_size (Rgn.bq HB.out))); replace HB := Aside0.mk (below_step (Rgn.bq HB.out) hb); clear hb ho4))
 go_loopg [5, 6, 7] k (fun kq v5 v6 v7 w' => ∃ (x5_1 : List ByteArray) (x6_1 : Int) (x7_1 : Int), v6 = .int .i64 x6_1 ∧ v7 = .int .i64 x7_1 ∧ Aside0 (spec_l10Cut.l0 kq a0 a1 x5_1 x6_1 x7_1 = some r) ∧ Aside0 (kq ≤ k) ∧ Aside0 (Kd.R Kd.string 9 w' w.heap.size (fun _ => True) v5 x5_1) ∧ Aside0 (Below w.heap.size w w'))
 case atStart => exact ⟨(y101), (0), (0), (by first | rfl | (simp; done) | (simp [*]; done)), (by first | rfl | (simp; done) | (simp [*]; done)), H', ⟨Nat.le_refl _⟩, ⟨Rgn.rq HO103.out⟩, ⟨Rgn.bq HB.out⟩⟩
 case round =>
  clear H'
  obtain ⟨x5_1, x6_1, x7_1, rfl, rfl, HA, HK1, HO_5, HB⟩ := hrel
  cases gk with
  | zero => exact absurd HA.out (by simp [spec_l10Cut.l0])
  | succ k1 =>
   have H := HA.out
   clear HA
   simp only [spec_l10Cut.l0] at H
   by_cases c5 : x7_1 < (a0.size : Int)
   ·
    rw [if_pos c5] at H
    have c5b0 : decide (x7_1 < (a0.size : Int)) = true := decide_eq_true c5
    clear c5
    by_cases c6 : 0 ≤ x7_1
    ·
     rw [if_pos c6] at H
     have c6b0 : decide (0 ≤ x7_1) = true := decide_eq_true c6
     clear c6
     by_cases c8 : (bt a0 x7_1) = a1
     ·
      rw [if_pos c8] at H
      have c8b0 : ((bt a0 x7_1) == a1) = true := beq_iff_eq.mpr c8
      have c8b1 : ((bt a0 x7_1) != a1) = false := bne_eq_false_iff_eq.mpr c8
      clear c8
      by_cases c9 : 0 ≤ x6_1
      ·
       rw [if_pos c9] at H
       have c9b0 := eq_true c9
       have c9b1 : decide (0 ≤ x6_1) = true := decide_eq_true c9
       clear c9
       by_cases c10 : x6_1 ≤ x7_1
       ·
        rw [if_pos c10] at H
        have c10b0 := eq_true c10
        have c10b1 : decide (x6_1 ≤ x7_1) = true := decide_eq_true c10
        clear c10
        by_cases c11 : x7_1 ≤ (a0.size : Int)
        ·
         rw [if_pos c11] at H
         have c11b0 := eq_true c11
         have c11b1 : decide (x7_1 ≤ (a0.size : Int)) = true := decide_eq_true c11
         clear c11
         by_cases c12 : x5_1.length < 8796093022208
         ·
          rw [if_pos c12] at H
          have LMc12 := Aside0.mk c12
          clear c12
          obtain ⟨y104, hy104⟩ : ∃ y_ : List ByteArray, y_ = (x5_1 ++ [a0.extract (x6_1 : Int).toNat (x7_1 : Int).toNat]) := ⟨_, rfl⟩
          replace H : (spec_l10Cut.l0 k1 a0 a1 y104 (wrap64 (x7_1 + 1)) (wrap64 (x7_1 + 1))) = some r := by first | (rw [hy104]; with_reducible exact H) | (have H2_ := (Option.bind_some _ _).symm.trans H; rw [hy104]; with_reducible exact H2_) | (have H2_ := (Option.bind_some _ _).symm.trans H; with_reducible exact H2_) | with_reducible exact H | (rw [hy104]; exact H) | exact H
          have Ny104 := Aside0.mk hy104
          clear hy104
          have H' := Aside0.mk H
          clear H
          have p7 : 0 ≤ (x7_1 : Int) := of_decide_eq_true (by first | (with_reducible assumption) | assumption)
          have q7 : x7_1 < (a0.size : Int) := of_decide_eq_true (by first | (with_reducible assumption) | assumption)
          have hx7 := bt_at a0 x7_1
          replace p7 := eq_true p7
          replace q7 := eq_true q7
          go_wp2_with (first | ((with_reducible refine gate_builtin (b := .append) (xs := #[.tmp 20, .tmp 25]) rfl ?_); at_builtin; refine Kd.R_append Kd.string (w0 := w) w.heap.size rfl (.tmp 20) (.tmp 25) 46 9 (.string ⟨#[]⟩) 16 rfl Tryd.underlying46 info9 rfl (by decide) (by omega) u5 x5_1 (a0.extract (x6_1 : Int).toNat (x7_1 : Int).toNat) [.string (a0.extract (x6_1 : Int).toNat (x7_1 : Int).toNat)] (fun _ => True) (fun _ => False) rfl rfl ?aP (fun _ hk => hk.elim) ?aF ?aO ?aB ?aS ?aL ?_; (case aP => exact rfl); (case aB => exact (Rgn.bq HB.out)); (case aF => exact (fun _ _ => trivial)); (case aO => exact (Rgn.rq HO_5.out)); (case aS => exact (below_size (Rgn.bq HB.out))); (case aL => have := LMc12.out; omega); intro v105 w13 ho hb hg hat; rw [← Ny104.out] at ho; replace HB := Aside0.mk (hb); have HO106 := Aside0.mk (ho); clear HO_5; clear ho hb hg hat))
          go_roundg k1
          case measure => have := HK1.out; omega
          case rel => exact ⟨(y104), (wrap64 (x7_1 + 1)), (wrap64 (x7_1 + 1)), (by first | rfl | (simp; done) | (simp [*]; done)), (by first | rfl | (simp; done) | (simp [*]; done)), H', ⟨by have := HK1.out; omega⟩, ⟨Rgn.rq HO106.out⟩, ⟨Rgn.bq HB.out⟩⟩
         ·
          rw [if_neg c12] at H
          exact absurd H (by simp)
        ·
         rw [if_neg c11] at H
         exact absurd H (by simp)
       ·
        rw [if_neg c10] at H
        exact absurd H (by simp)
      ·
       rw [if_neg c9] at H
       exact absurd H (by simp)
     ·
      rw [if_neg c8] at H
      have c8b0 : ((bt a0 x7_1) == a1) = false := beq_eq_false_iff_ne.mpr c8
      have c8b1 : ((bt a0 x7_1) != a1) = true := bne_iff_ne.mpr c8
      have H' := Aside0.mk H
      clear H
      have p7 : 0 ≤ (x7_1 : Int) := of_decide_eq_true (by first | (with_reducible assumption) | assumption)
      have q7 : x7_1 < (a0.size : Int) := of_decide_eq_true (by first | (with_reducible assumption) | assumption)
      have hx7 := bt_at a0 x7_1
      replace p7 := eq_true p7
      replace q7 := eq_true q7
      go_wp2
      go_roundg k1
      case measure => have := HK1.out; omega
      case rel => exact ⟨(x5_1), (x6_1), (wrap64 (x7_1 + 1)), (by first | rfl | (simp; done) | (simp [*]; done)), (by first | rfl | (simp; done) | (simp [*]; done)), H', ⟨by have := HK1.out; omega⟩, ⟨Rgn.rq HO_5.out⟩, ⟨Rgn.bq HB.out⟩⟩
    ·
     rw [if_neg c6] at H
     exact absurd H (by simp)
   ·
    rw [if_neg c5] at H
    have c5b0 : decide (x7_1 < (a0.size : Int)) = false := decide_eq_false c5
    clear c5
    by_cases c14 : 0 ≤ x6_1
    ·
     rw [if_pos c14] at H
     have c14b0 := eq_true c14
     have c14b1 : decide (0 ≤ x6_1) = true := decide_eq_true c14
     clear c14
     by_cases c15 : x6_1 ≤ (a0.size : Int)
     ·
      rw [if_pos c15] at H
      have c15b0 := eq_true c15
      have c15b1 : decide (x6_1 ≤ (a0.size : Int)) = true := decide_eq_true c15
      clear c15
      by_cases c16 : x5_1.length < 8796093022208
      ·
       rw [if_pos c16] at H
       have LMc16 := Aside0.mk c16
       clear c16
       obtain ⟨y107, hy107⟩ : ∃ y_ : List ByteArray, y_ = (x5_1 ++ [a0.extract (x6_1 : Int).toNat a0.size]) := ⟨_, rfl⟩
       replace H : (some y107) = some r := by first | (rw [hy107]; with_reducible exact H) | (have H2_ := (Option.bind_some _ _).symm.trans H; rw [hy107]; with_reducible exact H2_) | (have H2_ := (Option.bind_some _ _).symm.trans H; with_reducible exact H2_) | with_reducible exact H | (rw [hy107]; exact H) | exact H
       have Ny107 := Aside0.mk hy107
       clear hy107
       obtain rfl := Option.some.inj H
       go_wp2_with (first | ((with_reducible refine gate_builtin (b := .append) (xs := #[.tmp 29, .tmp 33]) rfl ?_); at_builtin; refine Kd.R_append Kd.string (w0 := w) w.heap.size rfl (.tmp 29) (.tmp 33) 46 9 (.string ⟨#[]⟩) 16 rfl Tryd.underlying46 info9 rfl (by decide) (by omega) u5 x5_1 (a0.extract (x6_1 : Int).toNat a0.size) [.string (a0.extract (x6_1 : Int).toNat a0.size)] (fun _ => True) (fun _ => False) rfl rfl ?aP (fun _ hk => hk.elim) ?aF ?aO ?aB ?aS ?aL ?_; (case aP => exact rfl); (case aB => exact (Rgn.bq HB.out)); (case aF => exact (fun _ _ => trivial)); (case aO => exact (Rgn.rq HO_5.out)); (case aS => exact (below_size (Rgn.bq HB.out))); (case aL => have := LMc16.out; omega); intro v108 w17 ho hb hg hat; rw [← Ny107.out] at ho; replace HB := Aside0.mk (hb); have HO109 := Aside0.mk (ho); clear HO_5; clear ho hb hg hat))
       go_ret
       exact ⟨_, by first | rfl | (simp [errW_none, errW_some] <;> rfl) | (simp [*, errW_none, errW_some] <;> rfl), Rgn.rq HO109.out, Rgn.bq HB.out⟩
      ·
       rw [if_neg c16] at H
       exact absurd H (by simp)
     ·
      rw [if_neg c15] at H
      exact absurd H (by simp)
    ·
     rw [if_neg c14] at H
     exact absurd H (by simp)

/-! ### spec_l14Lone: function 27 -/
def spec_l14Lone.l0 : Nat → ByteArray → List ByteArray → Int → Option (Int)
 | 0, _, _, _ => none
 | k + 1, x0, x3, x4 => if x4 < (x3.length : Int) then (if 0 ≤ x4 then (if (rdOf ByteArray.empty x3 x4).toList = x0.toList then (some (wrap64 (22 + x4))) else (spec_l14Lone.l0 k x0 x3 (wrap64 (x4 + 1)))) else (none)) else (some 0)
def spec_l14Lone.f (k : Nat) (a0 : ByteArray) : Option (Int) := spec_l14Lone.l0 k a0 (([(⟨#[115, 121, 110, 99]⟩ : ByteArray), (⟨#[99, 104, 101, 99, 107, 112, 111, 105, 110, 116]⟩ : ByteArray), (⟨#[115, 112, 97, 99, 101]⟩ : ByteArray), (⟨#[108, 111, 103]⟩ : ByteArray)] : List ByteArray)) 0
set_option maxHeartbeats 8000000 in
set_option maxRecDepth 100000 in
theorem spec_l14Lone.calls (k : Nat) (a0 : ByteArray) (r : Int) (w : World) (h : spec_l14Lone.f k a0 = some r) :
  Calls Tryd.prog 27 #[.string a0] w fun e w' => e = .returned (.int .i64 r) ∧ Below w.heap.size w w' := by
 have HB := Aside0.mk (Below.refl w.heap.size w)
 have H : (spec_l14Lone.l0 k a0 (([(⟨#[115, 121, 110, 99]⟩ : ByteArray), (⟨#[99, 104, 101, 99, 107, 112, 111, 105, 110, 116]⟩ : ByteArray), (⟨#[115, 112, 97, 99, 101]⟩ : ByteArray), (⟨#[108, 111, 103]⟩ : ByteArray)] : List ByteArray)) 0) = some r := h
 clear h
 obtain ⟨y110, hy110⟩ : ∃ y_ : List ByteArray, y_ = (([(⟨#[115, 121, 110, 99]⟩ : ByteArray), (⟨#[99, 104, 101, 99, 107, 112, 111, 105, 110, 116]⟩ : ByteArray), (⟨#[115, 112, 97, 99, 101]⟩ : ByteArray), (⟨#[108, 111, 103]⟩ : ByteArray)] : List ByteArray)) := ⟨_, rfl⟩
 replace H : (spec_l14Lone.l0 k a0 y110 0) = some r := by first | (rw [hy110]; with_reducible exact H) | (have H2_ := (Option.bind_some _ _).symm.trans H; rw [hy110]; with_reducible exact H2_) | (have H2_ := (Option.bind_some _ _).symm.trans H; with_reducible exact H2_) | with_reducible exact H | (rw [hy110]; exact H) | exact H
 have Ny110 := Aside0.mk hy110
 clear hy110
 have H' := Aside0.mk H
 clear H
 go_enter Tryd.func27, Tryd.ntmps27
 go_wp2_with (first | ((with_reducible refine gate_dst (N := 5) rfl ?_); refine Kd.R_lit Kd.string _ 9 ?hg (N := 5) ?hd (xs := ([(⟨#[115, 121, 110, 99]⟩ : ByteArray), (⟨#[99, 104, 101, 99, 107, 112, 111, 105, 110, 116]⟩ : ByteArray), (⟨#[115, 112, 97, 99, 101]⟩ : ByteArray), (⟨#[108, 111, 103]⟩ : ByteArray)] : List ByteArray)) (inner := [.string (⟨#[115, 121, 110, 99]⟩ : ByteArray), .string (⟨#[99, 104, 101, 99, 107, 112, 111, 105, 110, 116]⟩ : ByteArray), .string (⟨#[115, 112, 97, 99, 101]⟩ : ByteArray), .string (⟨#[108, 111, 103]⟩ : ByteArray)]) (ok := fun _ => True) (okp := fun _ => True) ?hr ?hp (fun _ hk => hk) trivial (Below.refl _ _) (Nat.le_refl _) (by simp) ?_; (case hd => rfl); (case hg => rfl); (case hr => first | (go_simp; done) | (go_simp; rfl)); (case hp => exact (Reps.one (show Kd.M Kd.string _ _ _ (⟨#[115, 121, 110, 99]⟩ : ByteArray) [.string (⟨#[115, 121, 110, 99]⟩ : ByteArray)] from rfl) (Reps.one (show Kd.M Kd.string _ _ _ (⟨#[99, 104, 101, 99, 107, 112, 111, 105, 110, 116]⟩ : ByteArray) [.string (⟨#[99, 104, 101, 99, 107, 112, 111, 105, 110, 116]⟩ : ByteArray)] from rfl) (Reps.one (show Kd.M Kd.string _ _ _ (⟨#[115, 112, 97, 99, 101]⟩ : ByteArray) [.string (⟨#[115, 112, 97, 99, 101]⟩ : ByteArray)] from rfl) (Reps.one (show Kd.M Kd.string _ _ _ (⟨#[108, 111, 103]⟩ : ByteArray) [.string (⟨#[108, 111, 103]⟩ : ByteArray)] from rfl) (Reps.none _ _)))))); intro v111 w2 ho3 hb hg_ hnew_; clear hg_ hnew_; (first | rw [← Ny110.out] at ho3 | (simp only [Int.reduceToNat] at ho3; rw [← Ny110.out] at ho3)); have HO112 := Aside0.mk (Kd.R_lower ho3 (below_size (Rgn.bq HB.out))); replace HB := Aside0.mk (below_step (Rgn.bq HB.out) hb); clear hb ho3))
 go_loopg [4] k (fun kq v4 w' => ∃ (x4_1 : Int), v4 = .int .i64 x4_1 ∧ Aside0 (spec_l14Lone.l0 kq a0 y110 x4_1 = some r) ∧ Aside0 (kq ≤ k) ∧ Aside0 (Kd.R Kd.string 9 w' w.heap.size (fun _ => True) v111 y110) ∧ Aside0 (Below w.heap.size w w'))
 case atStart => exact ⟨(0), (by first | rfl | (simp; done) | (simp [*]; done)), H', ⟨Nat.le_refl _⟩, ⟨Rgn.rq HO112.out⟩, ⟨Rgn.bq HB.out⟩⟩
 case round =>
  clear H'
  obtain ⟨x4_1, rfl, HA, HK1, HO_3, HB⟩ := hrel
  cases gk with
  | zero => exact absurd HA.out (by simp [spec_l14Lone.l0])
  | succ k1 =>
   have H := HA.out
   clear HA
   simp only [spec_l14Lone.l0] at H
   by_cases c4 : x4_1 < (y110.length : Int)
   ·
    rw [if_pos c4] at H
    have c4b0 : decide (x4_1 < (y110.length : Int)) = true := decide_eq_true c4
    clear c4
    by_cases c5 : 0 ≤ x4_1
    ·
     rw [if_pos c5] at H
     have c5b0 : decide (0 ≤ x4_1) = true := decide_eq_true c5
     clear c5
     by_cases c6 : (rdOf ByteArray.empty y110 x4_1).toList = a0.toList
     ·
      rw [if_pos c6] at H
      have c6b0 : ((rdOf ByteArray.empty y110 x4_1).toList == a0.toList) = true := beq_iff_eq.mpr c6
      have c6b1 : ((rdOf ByteArray.empty y110 x4_1).toList != a0.toList) = false := bne_eq_false_iff_eq.mpr c6
      clear c6
      obtain rfl := Option.some.inj H
      obtain ⟨Ao7, co7, eo7⟩ := Kd.R_slice HO_3.out
      subst eo7
      have p113 : 0 ≤ (x4_1 : Int) := of_decide_eq_true (by first | (with_reducible assumption) | assumption)
      have q113 : x4_1 < (y110.length : Int) := of_decide_eq_true (by first | (with_reducible assumption) | assumption)
      obtain ⟨ad113, e113, hx113_0⟩ := Kd.at_string (Kd.R_reads' HO_3.out).2.2 x4_1 p113 q113
      cases e113
      replace p113 := eq_true p113
      replace q113 := eq_true q113
      go_wp2
      go_ret
      exact ⟨by first | rfl | (simp [errW_none, errW_some] <;> rfl) | (simp [*, errW_none, errW_some] <;> rfl), Rgn.bq HB.out⟩
     ·
      rw [if_neg c6] at H
      have c6b0 : ((rdOf ByteArray.empty y110 x4_1).toList == a0.toList) = false := beq_eq_false_iff_ne.mpr c6
      have c6b1 : ((rdOf ByteArray.empty y110 x4_1).toList != a0.toList) = true := bne_iff_ne.mpr c6
      have H' := Aside0.mk H
      clear H
      obtain ⟨Ao8, co8, eo8⟩ := Kd.R_slice HO_3.out
      subst eo8
      have p113 : 0 ≤ (x4_1 : Int) := of_decide_eq_true (by first | (with_reducible assumption) | assumption)
      have q113 : x4_1 < (y110.length : Int) := of_decide_eq_true (by first | (with_reducible assumption) | assumption)
      obtain ⟨ad113, e113, hx113_0⟩ := Kd.at_string (Kd.R_reads' HO_3.out).2.2 x4_1 p113 q113
      cases e113
      replace p113 := eq_true p113
      replace q113 := eq_true q113
      go_wp2
      go_roundg k1
      case measure => have := HK1.out; omega
      case rel => exact ⟨(wrap64 (x4_1 + 1)), (by first | rfl | (simp; done) | (simp [*]; done)), H', ⟨by have := HK1.out; omega⟩, ⟨Rgn.rq HO_3.out⟩, ⟨Rgn.bq HB.out⟩⟩
    ·
     rw [if_neg c5] at H
     exact absurd H (by simp)
   ·
    rw [if_neg c4] at H
    have c4b0 : decide (x4_1 < (y110.length : Int)) = false := decide_eq_false c4
    clear c4
    obtain rfl := Option.some.inj H
    obtain ⟨Ao9, co9, eo9⟩ := Kd.R_slice HO_3.out
    subst eo9
    go_wp2
    go_ret
    exact ⟨by first | rfl | (simp [errW_none, errW_some] <;> rfl) | (simp [*, errW_none, errW_some] <;> rfl), Rgn.bq HB.out⟩

/-! ### spec_l14Word: function 28 -/
def spec_l14Word.f (a0 : ByteArray) : Option (Int) := if a0.toList = ([99, 114, 101, 97, 116, 101] : List UInt8) then (some 1) else (if a0.toList = ([109, 107, 100, 105, 114] : List UInt8) then (some 2) else (if a0.toList = ([117, 110, 108, 105, 110, 107] : List UInt8) then (some 3) else (if a0.toList = ([114, 109, 100, 105, 114] : List UInt8) then (some 4) else (if a0.toList = ([111, 112, 101, 110] : List UInt8) then (some 14) else (if a0.toList = ([115, 116, 97, 116] : List UInt8) then (some 18) else (if a0.toList = ([108, 115, 116, 97, 116] : List UInt8) then (some 19) else (if a0.toList = ([108, 105, 115, 116] : List UInt8) then (some 20) else (if a0.toList = ([114, 101, 97, 100, 108, 105, 110, 107] : List UInt8) then (some 21) else (some 0)))))))))
set_option maxHeartbeats 8000000 in
set_option maxRecDepth 100000 in
theorem spec_l14Word.calls (a0 : ByteArray) (r : Int) (w : World) (h : spec_l14Word.f a0 = some r) :
  Calls Tryd.prog 28 #[.string a0] w fun e w' => e = .returned (.int .i64 r) ∧ Drawn0 w w' := by
 have H : (if a0.toList = ([99, 114, 101, 97, 116, 101] : List UInt8) then (some 1) else (if a0.toList = ([109, 107, 100, 105, 114] : List UInt8) then (some 2) else (if a0.toList = ([117, 110, 108, 105, 110, 107] : List UInt8) then (some 3) else (if a0.toList = ([114, 109, 100, 105, 114] : List UInt8) then (some 4) else (if a0.toList = ([111, 112, 101, 110] : List UInt8) then (some 14) else (if a0.toList = ([115, 116, 97, 116] : List UInt8) then (some 18) else (if a0.toList = ([108, 115, 116, 97, 116] : List UInt8) then (some 19) else (if a0.toList = ([108, 105, 115, 116] : List UInt8) then (some 20) else (if a0.toList = ([114, 101, 97, 100, 108, 105, 110, 107] : List UInt8) then (some 21) else (some 0)))))))))) = some r := h
 clear h
 by_cases c2 : a0.toList = ([99, 114, 101, 97, 116, 101] : List UInt8)
 ·
  rw [if_pos c2] at H
  have c2b0 : (a0.toList == ([99, 114, 101, 97, 116, 101] : List UInt8)) = true := beq_iff_eq.mpr c2
  have c2b1 : (a0.toList != ([99, 114, 101, 97, 116, 101] : List UInt8)) = false := bne_eq_false_iff_eq.mpr c2
  clear c2
  obtain rfl := Option.some.inj H
  go_enter Tryd.func28, Tryd.ntmps28
  go_wp2
  go_ret
  exact ⟨by first | rfl | (simp; done) | (simp [*]; done), by repeat (first | exact Drawn0.refl _ | apply Drawn0.step)⟩
 ·
  rw [if_neg c2] at H
  have c2b0 : (a0.toList == ([99, 114, 101, 97, 116, 101] : List UInt8)) = false := beq_eq_false_iff_ne.mpr c2
  have c2b1 : (a0.toList != ([99, 114, 101, 97, 116, 101] : List UInt8)) = true := bne_iff_ne.mpr c2
  by_cases c3 : a0.toList = ([109, 107, 100, 105, 114] : List UInt8)
  ·
   rw [if_pos c3] at H
   have c3b0 : (a0.toList == ([109, 107, 100, 105, 114] : List UInt8)) = true := beq_iff_eq.mpr c3
   have c3b1 : (a0.toList != ([109, 107, 100, 105, 114] : List UInt8)) = false := bne_eq_false_iff_eq.mpr c3
   clear c3
   obtain rfl := Option.some.inj H
   go_enter Tryd.func28, Tryd.ntmps28
   go_wp2
   go_ret
   exact ⟨by first | rfl | (simp; done) | (simp [*]; done), by repeat (first | exact Drawn0.refl _ | apply Drawn0.step)⟩
  ·
   rw [if_neg c3] at H
   have c3b0 : (a0.toList == ([109, 107, 100, 105, 114] : List UInt8)) = false := beq_eq_false_iff_ne.mpr c3
   have c3b1 : (a0.toList != ([109, 107, 100, 105, 114] : List UInt8)) = true := bne_iff_ne.mpr c3
   by_cases c4 : a0.toList = ([117, 110, 108, 105, 110, 107] : List UInt8)
   ·
    rw [if_pos c4] at H
    have c4b0 : (a0.toList == ([117, 110, 108, 105, 110, 107] : List UInt8)) = true := beq_iff_eq.mpr c4
    have c4b1 : (a0.toList != ([117, 110, 108, 105, 110, 107] : List UInt8)) = false := bne_eq_false_iff_eq.mpr c4
    clear c4
    obtain rfl := Option.some.inj H
    go_enter Tryd.func28, Tryd.ntmps28
    go_wp2
    go_ret
    exact ⟨by first | rfl | (simp; done) | (simp [*]; done), by repeat (first | exact Drawn0.refl _ | apply Drawn0.step)⟩
   ·
    rw [if_neg c4] at H
    have c4b0 : (a0.toList == ([117, 110, 108, 105, 110, 107] : List UInt8)) = false := beq_eq_false_iff_ne.mpr c4
    have c4b1 : (a0.toList != ([117, 110, 108, 105, 110, 107] : List UInt8)) = true := bne_iff_ne.mpr c4
    by_cases c5 : a0.toList = ([114, 109, 100, 105, 114] : List UInt8)
    ·
     rw [if_pos c5] at H
     have c5b0 : (a0.toList == ([114, 109, 100, 105, 114] : List UInt8)) = true := beq_iff_eq.mpr c5
     have c5b1 : (a0.toList != ([114, 109, 100, 105, 114] : List UInt8)) = false := bne_eq_false_iff_eq.mpr c5
     clear c5
     obtain rfl := Option.some.inj H
     go_enter Tryd.func28, Tryd.ntmps28
     go_wp2
     go_ret
     exact ⟨by first | rfl | (simp; done) | (simp [*]; done), by repeat (first | exact Drawn0.refl _ | apply Drawn0.step)⟩
    ·
     rw [if_neg c5] at H
     have c5b0 : (a0.toList == ([114, 109, 100, 105, 114] : List UInt8)) = false := beq_eq_false_iff_ne.mpr c5
     have c5b1 : (a0.toList != ([114, 109, 100, 105, 114] : List UInt8)) = true := bne_iff_ne.mpr c5
     by_cases c6 : a0.toList = ([111, 112, 101, 110] : List UInt8)
     ·
      rw [if_pos c6] at H
      have c6b0 : (a0.toList == ([111, 112, 101, 110] : List UInt8)) = true := beq_iff_eq.mpr c6
      have c6b1 : (a0.toList != ([111, 112, 101, 110] : List UInt8)) = false := bne_eq_false_iff_eq.mpr c6
      clear c6
      obtain rfl := Option.some.inj H
      go_enter Tryd.func28, Tryd.ntmps28
      go_wp2
      go_ret
      exact ⟨by first | rfl | (simp; done) | (simp [*]; done), by repeat (first | exact Drawn0.refl _ | apply Drawn0.step)⟩
     ·
      rw [if_neg c6] at H
      have c6b0 : (a0.toList == ([111, 112, 101, 110] : List UInt8)) = false := beq_eq_false_iff_ne.mpr c6
      have c6b1 : (a0.toList != ([111, 112, 101, 110] : List UInt8)) = true := bne_iff_ne.mpr c6
      by_cases c7 : a0.toList = ([115, 116, 97, 116] : List UInt8)
      ·
       rw [if_pos c7] at H
       have c7b0 : (a0.toList == ([115, 116, 97, 116] : List UInt8)) = true := beq_iff_eq.mpr c7
       have c7b1 : (a0.toList != ([115, 116, 97, 116] : List UInt8)) = false := bne_eq_false_iff_eq.mpr c7
       clear c7
       obtain rfl := Option.some.inj H
       go_enter Tryd.func28, Tryd.ntmps28
       go_wp2
       go_ret
       exact ⟨by first | rfl | (simp; done) | (simp [*]; done), by repeat (first | exact Drawn0.refl _ | apply Drawn0.step)⟩
      ·
       rw [if_neg c7] at H
       have c7b0 : (a0.toList == ([115, 116, 97, 116] : List UInt8)) = false := beq_eq_false_iff_ne.mpr c7
       have c7b1 : (a0.toList != ([115, 116, 97, 116] : List UInt8)) = true := bne_iff_ne.mpr c7
       by_cases c8 : a0.toList = ([108, 115, 116, 97, 116] : List UInt8)
       ·
        rw [if_pos c8] at H
        have c8b0 : (a0.toList == ([108, 115, 116, 97, 116] : List UInt8)) = true := beq_iff_eq.mpr c8
        have c8b1 : (a0.toList != ([108, 115, 116, 97, 116] : List UInt8)) = false := bne_eq_false_iff_eq.mpr c8
        clear c8
        obtain rfl := Option.some.inj H
        go_enter Tryd.func28, Tryd.ntmps28
        go_wp2
        go_ret
        exact ⟨by first | rfl | (simp; done) | (simp [*]; done), by repeat (first | exact Drawn0.refl _ | apply Drawn0.step)⟩
       ·
        rw [if_neg c8] at H
        have c8b0 : (a0.toList == ([108, 115, 116, 97, 116] : List UInt8)) = false := beq_eq_false_iff_ne.mpr c8
        have c8b1 : (a0.toList != ([108, 115, 116, 97, 116] : List UInt8)) = true := bne_iff_ne.mpr c8
        by_cases c9 : a0.toList = ([108, 105, 115, 116] : List UInt8)
        ·
         rw [if_pos c9] at H
         have c9b0 : (a0.toList == ([108, 105, 115, 116] : List UInt8)) = true := beq_iff_eq.mpr c9
         have c9b1 : (a0.toList != ([108, 105, 115, 116] : List UInt8)) = false := bne_eq_false_iff_eq.mpr c9
         clear c9
         obtain rfl := Option.some.inj H
         go_enter Tryd.func28, Tryd.ntmps28
         go_wp2
         go_ret
         exact ⟨by first | rfl | (simp; done) | (simp [*]; done), by repeat (first | exact Drawn0.refl _ | apply Drawn0.step)⟩
        ·
         rw [if_neg c9] at H
         have c9b0 : (a0.toList == ([108, 105, 115, 116] : List UInt8)) = false := beq_eq_false_iff_ne.mpr c9
         have c9b1 : (a0.toList != ([108, 105, 115, 116] : List UInt8)) = true := bne_iff_ne.mpr c9
         by_cases c10 : a0.toList = ([114, 101, 97, 100, 108, 105, 110, 107] : List UInt8)
         ·
          rw [if_pos c10] at H
          have c10b0 : (a0.toList == ([114, 101, 97, 100, 108, 105, 110, 107] : List UInt8)) = true := beq_iff_eq.mpr c10
          have c10b1 : (a0.toList != ([114, 101, 97, 100, 108, 105, 110, 107] : List UInt8)) = false := bne_eq_false_iff_eq.mpr c10
          clear c10
          obtain rfl := Option.some.inj H
          go_enter Tryd.func28, Tryd.ntmps28
          go_wp2
          go_ret
          exact ⟨by first | rfl | (simp; done) | (simp [*]; done), by repeat (first | exact Drawn0.refl _ | apply Drawn0.step)⟩
         ·
          rw [if_neg c10] at H
          have c10b0 : (a0.toList == ([114, 101, 97, 100, 108, 105, 110, 107] : List UInt8)) = false := beq_eq_false_iff_ne.mpr c10
          have c10b1 : (a0.toList != ([114, 101, 97, 100, 108, 105, 110, 107] : List UInt8)) = true := bne_iff_ne.mpr c10
          obtain rfl := Option.some.inj H
          go_enter Tryd.func28, Tryd.ntmps28
          go_wp2
          go_ret
          exact ⟨by first | rfl | (simp; done) | (simp [*]; done), by repeat (first | exact Drawn0.refl _ | apply Drawn0.step)⟩

/-! ### spec_l14Dec: function 74 -/
def spec_l14Dec.f : Nat → Int → Option (ByteArray)
 | 0, _ => none
 | k + 1, a0 => if a0 < 0 then (if a0 < (-9) then ((spec_l14Dec.f k (wrap64 (Int.tdiv a0 10))).bind fun t114 => ((spec_l14Dec.f k (wrap64 (-(Int.tmod a0 10)))).bind fun t115 => (if t114.size + t115.size ≤ 9223372036854775807 then (some (t114 ++ t115)) else (none)))) else ((spec_l14Dec.f k (wrap64 (-a0))).bind fun t116 => (if 1 + t116.size ≤ 9223372036854775807 then (some ((⟨#[45]⟩ : ByteArray) ++ t116)) else (none)))) else (if a0 < 10 then (some (strOfNums (([(wrap64 (48 + a0)) % 256] : List Int)))) else ((spec_l14Dec.f k (wrap64 (Int.tdiv a0 10))).bind fun t120 => ((spec_l14Dec.f k (Int.tmod a0 10)).bind fun t121 => (if t120.size + t121.size ≤ 9223372036854775807 then (some (t120 ++ t121)) else (none)))))
set_option maxHeartbeats 8000000 in
set_option maxRecDepth 100000 in
theorem spec_l14Dec.calls (k : Nat) : ∀ (a0 : Int) (r : ByteArray) (w : World) (h : spec_l14Dec.f k a0 = some r),
  Calls Tryd.prog 74 #[.int .i64 a0] w fun e w' => e = .returned (.string r) ∧ Below w.heap.size w w' := by
 induction k using Nat.strongRecOn with
 | _ k ih =>
 intro a0 r w h
 cases k with
 | zero => exact absurd h (by simp [spec_l14Dec.f])
 | succ k =>
 simp only [spec_l14Dec.f] at h
 have HB := Aside0.mk (Below.refl w.heap.size w)
 have H : (if a0 < 0 then (if a0 < (-9) then ((spec_l14Dec.f k (wrap64 (Int.tdiv a0 10))).bind fun t114 => ((spec_l14Dec.f k (wrap64 (-(Int.tmod a0 10)))).bind fun t115 => (if t114.size + t115.size ≤ 9223372036854775807 then (some (t114 ++ t115)) else (none)))) else ((spec_l14Dec.f k (wrap64 (-a0))).bind fun t116 => (if 1 + t116.size ≤ 9223372036854775807 then (some ((⟨#[45]⟩ : ByteArray) ++ t116)) else (none)))) else (if a0 < 10 then (some (strOfNums (([(wrap64 (48 + a0)) % 256] : List Int)))) else ((spec_l14Dec.f k (wrap64 (Int.tdiv a0 10))).bind fun t120 => ((spec_l14Dec.f k (Int.tmod a0 10)).bind fun t121 => (if t120.size + t121.size ≤ 9223372036854775807 then (some (t120 ++ t121)) else (none)))))) = some r := h
 clear h
 by_cases c2 : a0 < 0
 ·
  rw [if_pos c2] at H
  have c2b0 : decide (a0 < 0) = true := decide_eq_true c2
  clear c2
  by_cases c3 : a0 < (-9)
  ·
   rw [if_pos c3] at H
   have c3b0 : decide (a0 < (-9)) = true := decide_eq_true c3
   clear c3
   replace H := Option.bind_eq_some_iff.mp H
   obtain ⟨t114, A40, H⟩ := H
   replace H : ((spec_l14Dec.f k (wrap64 (-(Int.tmod a0 10)))).bind fun t115 => (if t114.size + t115.size ≤ 9223372036854775807 then (some (t114 ++ t115)) else (none))) = some r := H
   have A4 := Aside0.mk A40
   clear A40
   replace H := Option.bind_eq_some_iff.mp H
   obtain ⟨t115, A50, H⟩ := H
   replace H : (if t114.size + t115.size ≤ 9223372036854775807 then (some (t114 ++ t115)) else (none)) = some r := H
   have A5 := Aside0.mk A50
   clear A50
   by_cases c6 : t114.size + t115.size ≤ 9223372036854775807
   ·
    rw [if_pos c6] at H
    have c6b0 := eq_true c6
    have c6b1 : decide (t114.size + t115.size ≤ 9223372036854775807) = true := decide_eq_true c6
    try have c6b2 : (9223372036854775807 < t114.size + t115.size) = False := eq_false (Nat.not_lt.2 c6)
    obtain rfl := Option.some.inj H
    go_enter Tryd.func74, Tryd.ntmps74
    go_wp2_with (first | ((with_reducible refine gate_callee (f := 74) rfl ?_); refine Rgn.gl (some 9) Tryd.func74 #[.int .i64 (wrap64 (Int.tdiv a0 10))] ?_; (with_reducible refine (ih k (by omega) (wrap64 (Int.tdiv a0 10)) t114 _ A4.out).mono ?_); rintro e w7 ⟨rfl, hb⟩; refine ⟨_, rfl, ?_⟩; replace HB := Aside0.mk (below_step (Rgn.bq HB.out) hb); (try clear hb)) | ((with_reducible refine gate_callee (f := 74) rfl ?_); refine Rgn.gl (some 13) Tryd.func74 #[.int .i64 (wrap64 (-(Int.tmod a0 10)))] ?_; (with_reducible refine (ih k (by omega) (wrap64 (-(Int.tmod a0 10))) t115 _ A5.out).mono ?_); rintro e w8 ⟨rfl, hb⟩; refine ⟨_, rfl, ?_⟩; replace HB := Aside0.mk (below_step (Rgn.bq HB.out) hb); (try clear hb)))
    go_ret
    exact ⟨by first | rfl | (simp [errW_none, errW_some] <;> rfl) | (simp [*, errW_none, errW_some] <;> rfl), Rgn.bq HB.out⟩
   ·
    rw [if_neg c6] at H
    exact absurd H (by simp)
  ·
   rw [if_neg c3] at H
   have c3b0 : decide (a0 < (-9)) = false := decide_eq_false c3
   clear c3
   replace H := Option.bind_eq_some_iff.mp H
   obtain ⟨t116, A90, H⟩ := H
   replace H : (if 1 + t116.size ≤ 9223372036854775807 then (some ((⟨#[45]⟩ : ByteArray) ++ t116)) else (none)) = some r := H
   have A9 := Aside0.mk A90
   clear A90
   by_cases c10 : 1 + t116.size ≤ 9223372036854775807
   ·
    rw [if_pos c10] at H
    have c10b0 := eq_true c10
    have c10b1 : decide (1 + t116.size ≤ 9223372036854775807) = true := decide_eq_true c10
    try have c10b2 : (9223372036854775807 < 1 + t116.size) = False := eq_false (Nat.not_lt.2 c10)
    obtain rfl := Option.some.inj H
    go_enter Tryd.func74, Tryd.ntmps74
    go_wp2_with (first | ((with_reducible refine gate_callee (f := 74) rfl ?_); refine Rgn.gl (some 17) Tryd.func74 #[.int .i64 (wrap64 (-a0))] ?_; (with_reducible refine (ih k (by omega) (wrap64 (-a0)) t116 _ A9.out).mono ?_); rintro e w11 ⟨rfl, hb⟩; refine ⟨_, rfl, ?_⟩; replace HB := Aside0.mk (below_step (Rgn.bq HB.out) hb); (try clear hb)))
    go_ret
    exact ⟨by first | rfl | (simp [errW_none, errW_some] <;> rfl) | (simp [*, errW_none, errW_some] <;> rfl), Rgn.bq HB.out⟩
   ·
    rw [if_neg c10] at H
    exact absurd H (by simp)
 ·
  rw [if_neg c2] at H
  have c2b0 : decide (a0 < 0) = false := decide_eq_false c2
  clear c2
  by_cases c12 : a0 < 10
  ·
   rw [if_pos c12] at H
   have c12b0 : decide (a0 < 10) = true := decide_eq_true c12
   clear c12
   obtain ⟨y117, hy117⟩ : ∃ y_ : List Int, y_ = (([(wrap64 (48 + a0)) % 256] : List Int)) := ⟨_, rfl⟩
   replace H : (some (strOfNums y117)) = some r := by first | (rw [hy117]; with_reducible exact H) | (have H2_ := (Option.bind_some _ _).symm.trans H; rw [hy117]; with_reducible exact H2_) | (have H2_ := (Option.bind_some _ _).symm.trans H; with_reducible exact H2_) | with_reducible exact H | (rw [hy117]; exact H) | exact H
   have Ny117 := Aside0.mk hy117
   clear hy117
   obtain rfl := Option.some.inj H
   go_enter Tryd.func74, Tryd.ntmps74
   go_wp2_with (first | ((with_reducible refine gate_dst (N := 24) rfl ?_); refine Kd.R_lit (Kd.int .u8) _ 5 ?hg (N := 24) ?hd (xs := ([(wrap64 (48 + a0)) % 256] : List Int)) (inner := [.int .u8 ((wrap64 (48 + a0)) % 256)]) (ok := fun _ => True) (okp := fun _ => True) ?hr ?hp (fun _ hk => hk) trivial (Below.refl _ _) (Nat.le_refl _) (by simp) ?_; (case hd => rfl); (case hg => rfl); (case hr => first | (go_simp; done) | (go_simp; rfl)); (case hp => exact (Reps.one (show Kd.M (Kd.int .u8) _ _ _ ((wrap64 (48 + a0)) % 256) [.int .u8 ((wrap64 (48 + a0)) % 256)] from rfl) (Reps.none _ _))); intro v118 w13 ho14 hb hg_ hnew_; clear hg_ hnew_; (first | rw [← Ny117.out] at ho14 | (simp only [Int.reduceToNat] at ho14; rw [← Ny117.out] at ho14)); have HO119 := Aside0.mk (Kd.R_lower ho14 (below_size (Rgn.bq HB.out))); replace HB := Aside0.mk (below_step (Rgn.bq HB.out) hb); clear hb ho14; have hcv15 := own_string (P := Tryd.prog) Tryd.underlying22 Tryd.underlying5 Tryd.underlying9 (Kd.own_of_R HO119.out)))
   go_ret
   exact ⟨by first | rfl | (simp [errW_none, errW_some] <;> rfl) | (simp [*, errW_none, errW_some] <;> rfl), Rgn.bq HB.out⟩
  ·
   rw [if_neg c12] at H
   have c12b0 : decide (a0 < 10) = false := decide_eq_false c12
   clear c12
   replace H := Option.bind_eq_some_iff.mp H
   obtain ⟨t120, A160, H⟩ := H
   replace H : ((spec_l14Dec.f k (Int.tmod a0 10)).bind fun t121 => (if t120.size + t121.size ≤ 9223372036854775807 then (some (t120 ++ t121)) else (none))) = some r := H
   have A16 := Aside0.mk A160
   clear A160
   replace H := Option.bind_eq_some_iff.mp H
   obtain ⟨t121, A170, H⟩ := H
   replace H : (if t120.size + t121.size ≤ 9223372036854775807 then (some (t120 ++ t121)) else (none)) = some r := H
   have A17 := Aside0.mk A170
   clear A170
   by_cases c18 : t120.size + t121.size ≤ 9223372036854775807
   ·
    rw [if_pos c18] at H
    have c18b0 := eq_true c18
    have c18b1 : decide (t120.size + t121.size ≤ 9223372036854775807) = true := decide_eq_true c18
    try have c18b2 : (9223372036854775807 < t120.size + t121.size) = False := eq_false (Nat.not_lt.2 c18)
    obtain rfl := Option.some.inj H
    go_enter Tryd.func74, Tryd.ntmps74
    go_wp2_with (first | ((with_reducible refine gate_callee (f := 74) rfl ?_); refine Rgn.gl (some 28) Tryd.func74 #[.int .i64 (wrap64 (Int.tdiv a0 10))] ?_; (with_reducible refine (ih k (by omega) (wrap64 (Int.tdiv a0 10)) t120 _ A16.out).mono ?_); rintro e w19 ⟨rfl, hb⟩; refine ⟨_, rfl, ?_⟩; replace HB := Aside0.mk (below_step (Rgn.bq HB.out) hb); (try clear hb)) | ((with_reducible refine gate_callee (f := 74) rfl ?_); refine Rgn.gl (some 31) Tryd.func74 #[.int .i64 (Int.tmod a0 10)] ?_; (with_reducible refine (ih k (by omega) (Int.tmod a0 10) t121 _ A17.out).mono ?_); rintro e w20 ⟨rfl, hb⟩; refine ⟨_, rfl, ?_⟩; replace HB := Aside0.mk (below_step (Rgn.bq HB.out) hb); (try clear hb)))
    go_ret
    exact ⟨by first | rfl | (simp [errW_none, errW_some] <;> rfl) | (simp [*, errW_none, errW_some] <;> rfl), Rgn.bq HB.out⟩
   ·
    rw [if_neg c18] at H
    exact absurd H (by simp)

end Go.Proofs.YtkehfdadplpaeaaDoor.PFnExactParseLine
