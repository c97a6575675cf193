-- written by a program of this session (wip/src/print2.py)
import Derived.Test.YtkehfdadplpaeaaDoorPFnExactParseLinex0
import Derived.Test.YtkehfdadplpaeaaDoorPFnExactParseLinex3
namespace Go.Proofs.YtkehfdadplpaeaaDoor.PFnExactParseLine
open Go.RowKit Go.Proofs.YtkehfdadplpaeaaDoorW.PrintWords Go.Proofs.YtkehfdadplpaeaaDoorW.PrintLast Go.Proofs.YtkehfdadplpaeaaDoorW.PrintMore
attribute [local go_sem] max2_int min2_int max_two min_two max_three min_three max_four min_four   -- for this text's walks alone
set_option linter.unusedVariables false
set_option linter.unusedSimpArgs false

/-! ### spec_Unquote: function 61 -/
mutual
def spec_Unquote.l0 : Nat → ByteArray → List Int → Int → Option (Bool × ByteArray)
 | 0, _, _, _ => none
 | k + 1, x0, x3, x4 => if x4 < (x0.size : Int) then (if 0 ≤ x4 then ((spec_l14Plain.f (bt x0 x4)).bind fun t138 => (if t138 = true then (if x3.length < 140737488355328 then (spec_Unquote.l0 k x0 (x3 ++ [bt x0 x4]) (wrap64 (x4 + 1))) else (none)) else (if (bt x0 x4) = 37 then (spec_Unquote.j1 k x0 x3 x4 (decide ((wrap64 (x4 + 2)) ≥ (x0.size : Int)))) else (spec_Unquote.j1 k x0 x3 x4 true)))) else (none)) else (if (x3.length : Int) = 0 then (some (false, (⟨#[]⟩ : ByteArray))) else (if (x3.length : Int) > 65536 then (some (false, (⟨#[]⟩ : ByteArray))) else (some (true, strOfNums x3))))
def spec_Unquote.j1 : Nat → ByteArray → List Int → Int → Bool → Option (Bool × ByteArray)
 | 0, _, _, _, _ => none
 | k + 1, x0, x3, x4, x37 => if x37 = true then (some (false, (⟨#[]⟩ : ByteArray))) else (if 0 ≤ (wrap64 (x4 + 1)) then (if (wrap64 (x4 + 1)) < (x0.size : Int) then ((spec_l14Digit.f k (bt x0 (wrap64 (x4 + 1)))).bind fun t142 => (if 0 ≤ (wrap64 (x4 + 2)) then (if (wrap64 (x4 + 2)) < (x0.size : Int) then ((spec_l14Digit.f k (bt x0 (wrap64 (x4 + 2)))).bind fun t143 => (if t142 < 0 then (some (false, (⟨#[]⟩ : ByteArray))) else (if t143 < 0 then (some (false, (⟨#[]⟩ : ByteArray))) else ((spec_l14Plain.f ((wrap64 ((wrap64 (t142 * 16)) + t143)) % 256)).bind fun t144 => (if t144 = true then (some (false, (⟨#[]⟩ : ByteArray))) else (if x3.length < 140737488355328 then (spec_Unquote.l0 k x0 (x3 ++ [(wrap64 ((wrap64 (t142 * 16)) + t143)) % 256]) (wrap64 ((wrap64 (x4 + 2)) + 1))) else (none))))))) else (none)) else (none))) else (none)) else (none))
end
def spec_Unquote.f (k : Nat) (a0 : ByteArray) : Option (Bool × ByteArray) := if a0.toList = ([37] : List UInt8) then (some (true, (⟨#[]⟩ : ByteArray))) else (spec_Unquote.l0 k a0 (([] : List Int)) 0)
set_option maxHeartbeats 8000000 in
set_option maxRecDepth 100000 in
theorem spec_Unquote.calls (k : Nat) (a0 : ByteArray) (r1 : Bool) (r2 : ByteArray) (w : World) (h : spec_Unquote.f k a0 = some (r1, r2)) :
  Calls Tryd.prog 61 #[.string a0] w fun e w' => e = .returned (.agg #[.bool r1, .string r2]) ∧ Below w.heap.size w w' := by
 have hu77 := Tryd.underlying77
 have HB := Aside0.mk (Below.refl w.heap.size w)
 have H : (if a0.toList = ([37] : List UInt8) then (some (true, (⟨#[]⟩ : ByteArray))) else (spec_Unquote.l0 k a0 (([] : List Int)) 0)) = some (r1, r2) := h
 clear h
 by_cases c2 : a0.toList = ([37] : List UInt8)
 ·
  rw [if_pos c2] at H
  have c2b0 : (a0.toList == ([37] : List UInt8)) = true := beq_iff_eq.mpr c2
  have c2b1 : (a0.toList != ([37] : List UInt8)) = false := bne_eq_false_iff_eq.mpr c2
  clear c2
  simp only [Option.some.injEq, Prod.mk.injEq] at H
  obtain ⟨rfl, rfl⟩ := H
  go_enter Tryd.func61, Tryd.ntmps61
  go_wp2_with (first | ((with_reducible refine gate_dst (N := 2) rfl ?_); (try (refine gate_guard (by rfl) ?_; dsimp only)); refine Rgn.bx 2 #[.bool false, .string (⟨#[]⟩ : ByteArray)] 77 ?_; intro gb134 hg w3 hbox hb; have BK134 := Aside0.mk (hbox); have GW134 := Aside0.mk (Rgn.ge hg HB.out); have GE134 := Aside0.mk (Rgn.ge hg HB.out); replace HB := Aside0.mk (below_step (Rgn.bq HB.out) hb); clear hb hbox hg; obtain ⟨hcz4_0, hcz4_1, hfz4_0, hfz4_1⟩ := Rgn.c2 BK134.out))
  refine bodyPost_ret (results_cell_row rfl _ _ gb134 77 #[.bool true, .string (⟨#[]⟩ : ByteArray)] (0, 0) _ rfl (by (with_reducible repeat (first | refine blk_drewN ?_ _ | refine blk_drew ?_ | refine blk_alloc ?_ _)); refine blk_put (cs := #[.bool true, .string (⟨#[]⟩ : ByteArray)]) ?_ 1 _ rfl; (with_reducible repeat (first | refine blk_drewN ?_ _ | refine blk_drew ?_ | refine blk_alloc ?_ _)); refine blk_put (cs := #[.bool false, .string (⟨#[]⟩ : ByteArray)]) ?_ 0 _ rfl; (with_reducible repeat (first | refine blk_drewN ?_ _ | refine blk_drew ?_ | refine blk_alloc ?_ _)); exact BK134.out) Tryd.underlying77 rfl (by kernel_rfl)) rfl ?_
  exact ⟨by first | rfl | (simp [errW_none, errW_some] <;> rfl) | (simp [*, errW_none, errW_some] <;> rfl), Rgn.bq HB.out⟩
 ·
  rw [if_neg c2] at H
  have c2b0 : (a0.toList == ([37] : List UInt8)) = false := beq_eq_false_iff_ne.mpr c2
  have c2b1 : (a0.toList != ([37] : List UInt8)) = true := bne_iff_ne.mpr c2
  obtain ⟨y135, hy135⟩ : ∃ y_ : List Int, y_ = (([] : List Int)) := ⟨_, rfl⟩
  replace H : (spec_Unquote.l0 k a0 y135 0) = some (r1, r2) := by first | (rw [hy135]; with_reducible exact H) | (have H2_ := (Option.bind_some _ _).symm.trans H; rw [hy135]; with_reducible exact H2_) | (have H2_ := (Option.bind_some _ _).symm.trans H; with_reducible exact H2_) | with_reducible exact H | (rw [hy135]; exact H) | exact H
  have Ny135 := Aside0.mk hy135
  clear hy135
  have H' := Aside0.mk H
  clear H
  go_enter Tryd.func61, Tryd.ntmps61
  go_wp2_with (first | ((with_reducible refine gate_dst (N := 2) rfl ?_); (try (refine gate_guard (by rfl) ?_; dsimp only)); refine Rgn.bx 2 #[.bool false, .string (⟨#[]⟩ : ByteArray)] 77 ?_; intro gb134 hg w5 hbox hb; have BK134 := Aside0.mk (hbox); have GW134 := Aside0.mk (Rgn.ge hg HB.out); have GE134 := Aside0.mk (Rgn.ge hg HB.out); replace HB := Aside0.mk (below_step (Rgn.bq HB.out) hb); clear hb hbox hg) | ((with_reducible refine gate_dst (N := 10) rfl ?_); (try (refine gate_guard (by rfl) ?_; dsimp only)); refine Kd.R_lit (Kd.int .u8) _ 5 ?hg (N := 10) ?hd (xs := ([] : List Int)) (inner := []) (ok := fun _ => True) (okp := fun _ => True) ?hr ?hp (fun _ hk => hk) trivial (Below.refl _ _) (Nat.le_refl _) (by simp) ?_; (case hd => rfl); (case hg => rfl); (case hr => first | (go_simp; done) | (go_simp; rfl)); (case hp => exact (Reps.none _ _)); intro v136 w6 ho7 hb hg_ hnew_; clear hg_ hnew_; (first | rw [← Ny135.out] at ho7 | (simp only [Int.reduceToNat] at ho7; rw [← Ny135.out] at ho7)); have HO137 := Aside0.mk (Kd.R_lower ho7 (below_size (Rgn.bq HB.out))); replace BK134 := Aside0.mk (Rgn.bb BK134.out hb); replace HB := Aside0.mk (below_step (Rgn.bq HB.out) hb); clear hb ho7))
  go_loopg [3, 4] k (fun kq v3 v4 w' => ∃ (x3_1 : List Int) (x4_1 : Int) (x135000_1 : Bool) (x135001_1 : ByteArray), v4 = .int .i64 x4_1 ∧ Aside0 (spec_Unquote.l0 kq a0 x3_1 x4_1 = some (r1, r2)) ∧ Aside0 (kq ≤ k) ∧ Aside0 (Kd.R (Kd.int .u8) 5 w' w.heap.size (fun _ => True) v3 x3_1) ∧ Aside0 (w'.heap[gb134]? = some (.cells #[.bool x135000_1, .string x135001_1] 77 (0, 0))) ∧ Aside0 (Below w.heap.size w w'))
  case atStart => exact ⟨(y135), (0), (false), ((⟨#[]⟩ : ByteArray)), (by first | rfl | (simp; done) | (simp [*]; done)), H', ⟨Nat.le_refl _⟩, ⟨Rgn.rq HO137.out⟩, ⟨Rgn.kb BK134.out⟩, ⟨Rgn.bq HB.out⟩⟩
  case round =>
   clear H'
   try clear c2
   try clear c2b0
   try clear c2b1
   obtain ⟨x3_1, x4_1, x135000_1, x135001_1, rfl, HA, HK1, HO_3, BK134, HB⟩ := hrel
   cases gk with
   | zero => exact absurd HA.out (by simp [spec_Unquote.l0])
   | succ k1 =>
    have H := HA.out
    clear HA
    simp only [spec_Unquote.l0] at H
    by_cases c8 : x4_1 < (a0.size : Int)
    ·
     rw [if_pos c8] at H
     have c8b0 : decide (x4_1 < (a0.size : Int)) = true := decide_eq_true c8
     clear c8
     by_cases c9 : 0 ≤ x4_1
     ·
      rw [if_pos c9] at H
      have c9b0 : decide (0 ≤ x4_1) = true := decide_eq_true c9
      clear c9
      replace H := Option.bind_eq_some_iff.mp H
      obtain ⟨t138, A110, H⟩ := H
      replace H : (if t138 = true then (if x3_1.length < 140737488355328 then (spec_Unquote.l0 k1 a0 (x3_1 ++ [bt a0 x4_1]) (wrap64 (x4_1 + 1))) else (none)) else (if (bt a0 x4_1) = 37 then (spec_Unquote.j1 k1 a0 x3_1 x4_1 (decide ((wrap64 (x4_1 + 2)) ≥ (a0.size : Int)))) else (spec_Unquote.j1 k1 a0 x3_1 x4_1 true))) = some (r1, r2) := H
      have A11 := Aside0.mk A110
      clear A110
      by_cases c12 : t138 = true
      ·
       subst c12
       replace H := Rgn.ip H
       by_cases c14 : x3_1.length < 140737488355328
       ·
        rw [if_pos c14] at H
        have LMc14 := Aside0.mk c14
        clear c14
        obtain ⟨y139, hy139⟩ : ∃ y_ : List Int, y_ = (x3_1 ++ [bt a0 x4_1]) := ⟨_, rfl⟩
        replace H : (spec_Unquote.l0 k1 a0 y139 (wrap64 (x4_1 + 1))) = some (r1, r2) := by first | (rw [hy139]; with_reducible exact H) | (have H2_ := (Option.bind_some _ _).symm.trans H; rw [hy139]; with_reducible exact H2_) | (have H2_ := (Option.bind_some _ _).symm.trans H; with_reducible exact H2_) | with_reducible exact H | (rw [hy139]; exact H) | exact H
        have Ny139 := Aside0.mk hy139
        clear hy139
        have H' := Aside0.mk H
        clear H
        have p10 : 0 ≤ (x4_1 : Int) := of_decide_eq_true (by first | (with_reducible assumption) | assumption)
        have q10 : x4_1 < (a0.size : Int) := of_decide_eq_true (by first | (with_reducible assumption) | assumption)
        have hx10 := bt_at a0 x4_1
        replace p10 := eq_true p10
        replace q10 := eq_true q10
        go_wp2_with (first | ((with_reducible refine gate_callee (f := 72) rfl ?_); refine Rgn.gl (some 20) Tryd.func72 #[.int .u8 (bt a0 x4_1)] ?_; (with_reducible refine (spec_l14Plain.calls (bt a0 x4_1) true _ A11.out).mono ?_); rintro e w' ⟨rfl, ⟨nd, rfl⟩⟩; refine ⟨_, rfl, ?_⟩; have p13 : 0 ≤ (x4_1 : Int) := of_decide_eq_true (by first | (with_reducible assumption) | assumption); have q13 : x4_1 < (a0.size : Int) := of_decide_eq_true (by first | (with_reducible assumption) | assumption); have hx13 := bt_at a0 x4_1; replace p13 := eq_true p13; replace q13 := eq_true q13) | ((with_reducible refine gate_builtin (b := .append) (xs := #[.tmp 21, .tmp 25]) rfl ?_); (try (refine gate_guard (by rfl) ?_; dsimp only)); at_builtin; refine Kd.R_append (Kd.int .u8) (w0 := w) w.heap.size rfl (.tmp 21) (.tmp 25) 22 5 (.int .u8 0) 1 rfl Tryd.underlying22 info5 rfl (by decide) (by omega) u3 x3_1 (bt a0 x4_1) [.int .u8 (bt a0 x4_1)] (fun _ => True) (fun _ => False) rfl rfl ?aP (fun _ hk => hk.elim) ?aF ?aO ?aB ?aS ?aL ?_; (case aP => exact rfl); (case aB => exact (Rgn.bq HB.out)); (case aF => exact (fun _ _ => trivial)); (case aO => exact (Rgn.rq HO_3.out)); (case aS => exact (below_size (Rgn.bq HB.out))); (case aL => have := LMc14.out; omega); intro v140 w15 ho hb hg hat; rw [← Ny139.out] at ho; replace BK134 := Aside0.mk (Rgn.bg BK134.out hg (Kd.R_ne HO_3.out BK134.out (by decide))); replace HB := Aside0.mk (hb); have HO141 := Aside0.mk (ho); clear HO_3; clear ho hb hg hat))
        go_roundg k1
        case measure => have := HK1.out; omega
        case rel => exact ⟨(y139), (wrap64 (x4_1 + 1)), (x135000_1), (x135001_1), (by first | rfl | (simp; done) | (simp [*]; done)), H', ⟨by have := HK1.out; omega⟩, ⟨Rgn.rq HO141.out⟩, ⟨Rgn.kb BK134.out⟩, ⟨Rgn.bq HB.out⟩⟩
       ·
        rw [if_neg c14] at H
        exact absurd H (by simp)
      ·
       replace c12 := Bool.eq_false_iff.mpr c12
       subst c12
       replace H := Rgn.im H
       have HC16 := Aside0.mk H
       clear H
       have p10 : 0 ≤ (x4_1 : Int) := of_decide_eq_true (by first | (with_reducible assumption) | assumption)
       have q10 : x4_1 < (a0.size : Int) := of_decide_eq_true (by first | (with_reducible assumption) | assumption)
       have hx10 := bt_at a0 x4_1
       replace p10 := eq_true p10
       replace q10 := eq_true q10
       go_upto_region 9 with (first | ((with_reducible refine gate_callee (f := 72) rfl ?_); refine Rgn.gl (some 20) Tryd.func72 #[.int .u8 (bt a0 x4_1)] ?_; (with_reducible refine (spec_l14Plain.calls (bt a0 x4_1) false _ A11.out).mono ?_); rintro e w' ⟨rfl, ⟨nd, rfl⟩⟩; refine ⟨_, rfl, ?_⟩))
       (try simp only [Act.put, List.setIfInBounds_toArray, List.set_cons_zero, List.set_cons_succ])
       go_cut [37] from 37 to 37 (fun v37 wc => ∃ (kq : Nat) (x37_15 : Bool), v37 = .bool x37_15 ∧ Aside0 (spec_Unquote.j1 kq a0 x3_1 x4_1 x37_15 = some (r1, r2)) ∧ Aside0 (kq ≤ k1) ∧ Aside0 (Kd.R (Kd.int .u8) 5 wc w.heap.size (fun _ => True) u3 x3_1) ∧ Aside0 (wc.heap[gb134]? = some (.cells #[.bool x135000_1, .string x135001_1] 77 (0, 0))) ∧ Aside0 (Below w.heap.size w wc))
       case first =>
        have H := HC16.out
        clear HC16
        by_cases c18 : (bt a0 x4_1) = 37
        ·
         rw [if_pos c18] at H
         have c18b0 : ((bt a0 x4_1) == 37) = true := beq_iff_eq.mpr c18
         have c18b1 : ((bt a0 x4_1) != 37) = false := bne_eq_false_iff_eq.mpr c18
         clear c18
         (first | rw [c18b0] | (simp only [i64_w, i32_w]; rw [c18b0]) | skip)
         have H' := Aside0.mk H
         clear H
         have p17 : 0 ≤ (x4_1 : Int) := of_decide_eq_true (by first | (with_reducible assumption) | assumption)
         have q17 : x4_1 < (a0.size : Int) := of_decide_eq_true (by first | (with_reducible assumption) | assumption)
         have hx17 := bt_at a0 x4_1
         replace p17 := eq_true p17
         replace q17 := eq_true q17
         go_wp2
         go_meet
         case rel => exact ⟨_, (decide ((wrap64 (x4_1 + 2)) ≥ (a0.size : Int))), (by first | rfl | (simp; done) | (simp [*]; done)), H', ⟨by have := HK1.out; first | omega | exact Nat.le_refl _⟩, ⟨Rgn.rq HO_3.out⟩, ⟨Rgn.kb BK134.out⟩, ⟨Rgn.bq HB.out⟩⟩
        ·
         rw [if_neg c18] at H
         have c18b0 : ((bt a0 x4_1) == 37) = false := beq_eq_false_iff_ne.mpr c18
         have c18b1 : ((bt a0 x4_1) != 37) = true := bne_iff_ne.mpr c18
         (first | rw [c18b0] | (simp only [i64_w, i32_w]; rw [c18b0]) | skip)
         have H' := Aside0.mk H
         clear H
         have p17 : 0 ≤ (x4_1 : Int) := of_decide_eq_true (by first | (with_reducible assumption) | assumption)
         have q17 : x4_1 < (a0.size : Int) := of_decide_eq_true (by first | (with_reducible assumption) | assumption)
         have hx17 := bt_at a0 x4_1
         replace p17 := eq_true p17
         replace q17 := eq_true q17
         go_wp2
         go_meet
         case rel => exact ⟨_, (true), (by first | rfl | (simp; done) | (simp [*]; done)), H', ⟨by have := HK1.out; first | omega | exact Nat.le_refl _⟩, ⟨Rgn.rq HO_3.out⟩, ⟨Rgn.kb BK134.out⟩, ⟨Rgn.bq HB.out⟩⟩
       case rest =>
        clear HC16
        try clear c2
        try clear c2b0
        try clear c2b1
        try clear c8
        try clear c8b0
        try clear c9
        try clear c9b0
        try clear p10
        try clear q10
        try clear hx10
        try clear c12
        try clear p10
        try clear q10
        obtain ⟨kq, x37_15, rfl, HA, HJ15, HO_3, BK134, HB⟩ := hcut
        cases kq with
        | zero => exact absurd HA.out (by simp [spec_Unquote.j1])
        | succ kj15 =>
         have H := HA.out
         clear HA
         simp only [spec_Unquote.j1] at H
         by_cases c19 : x37_15 = true
         ·
          subst c19
          replace H := Rgn.ip H
          simp only [Option.some.injEq, Prod.mk.injEq] at H
          obtain ⟨rfl, rfl⟩ := H
          have hcz20_0 := Rgn.cz0 BK134.out
          have hcz20_1 := Rgn.cz1 BK134.out
          have hfz20_0 := blk_frozen BK134.out 0
          have hfz20_1 := blk_frozen BK134.out 1
          go_wp2
          refine bodyPost_ret (results_cell_row rfl _ _ gb134 77 #[.bool false, .string (⟨#[]⟩ : ByteArray)] (0, 0) _ rfl (by (with_reducible repeat (first | refine blk_drewN ?_ _ | refine blk_drew ?_ | refine blk_alloc ?_ _)); refine blk_put (cs := #[.bool false, .string x135001_1]) ?_ 1 _ rfl; (with_reducible repeat (first | refine blk_drewN ?_ _ | refine blk_drew ?_ | refine blk_alloc ?_ _)); refine blk_put (cs := #[.bool x135000_1, .string x135001_1]) ?_ 0 _ rfl; (with_reducible repeat (first | refine blk_drewN ?_ _ | refine blk_drew ?_ | refine blk_alloc ?_ _)); exact BK134.out) Tryd.underlying77 rfl (by kernel_rfl)) rfl ?_
          exact ⟨by first | rfl | (simp [errW_none, errW_some] <;> rfl) | (simp [*, errW_none, errW_some] <;> rfl), Rgn.bq HB.out⟩
         ·
          replace c19 := Bool.eq_false_iff.mpr c19
          subst c19
          replace H := Rgn.im H
          obtain ⟨ji21, hji21⟩ : ∃ j_ : Int, (wrap64 (x4_1 + 1)) = j_ := ⟨_, rfl⟩
          replace H : (if 0 ≤ (ji21) then (if (ji21) < (a0.size : Int) then ((spec_l14Digit.f kj15 (bt a0 (ji21))).bind fun t142 => (if 0 ≤ (wrap64 (x4_1 + 2)) then (if (wrap64 (x4_1 + 2)) < (a0.size : Int) then ((spec_l14Digit.f kj15 (bt a0 (wrap64 (x4_1 + 2)))).bind fun t143 => (if t142 < 0 then (some (false, (⟨#[]⟩ : ByteArray))) else (if t143 < 0 then (some (false, (⟨#[]⟩ : ByteArray))) else ((spec_l14Plain.f ((wrap64 ((wrap64 (t142 * 16)) + t143)) % 256)).bind fun t144 => (if t144 = true then (some (false, (⟨#[]⟩ : ByteArray))) else (if x3_1.length < 140737488355328 then (spec_Unquote.l0 kj15 a0 (x3_1 ++ [(wrap64 ((wrap64 (t142 * 16)) + t143)) % 256]) (wrap64 ((wrap64 (x4_1 + 2)) + 1))) else (none))))))) else (none)) else (none))) else (none)) else (none)) = some (r1, r2) := by first | (rw [hji21] at H; exact H) | (simp only [hji21] at H ⊢; exact H)
          have hji21w : (IntKind.i64.wrap (x4_1 + 1)) = ji21 := (i64_w _).trans hji21
          by_cases c22 : 0 ≤ (ji21)
          ·
           rw [if_pos c22] at H
           have c22b0 : decide (0 ≤ (ji21)) = true := decide_eq_true c22
           clear c22
           by_cases c23 : (ji21) < (a0.size : Int)
           ·
            rw [if_pos c23] at H
            have c23b0 : decide ((ji21) < (a0.size : Int)) = true := decide_eq_true c23
            clear c23
            replace H := Option.bind_eq_some_iff.mp H
            obtain ⟨t142, A250, H⟩ := H
            replace H : (if 0 ≤ (wrap64 (x4_1 + 2)) then (if (wrap64 (x4_1 + 2)) < (a0.size : Int) then ((spec_l14Digit.f kj15 (bt a0 (wrap64 (x4_1 + 2)))).bind fun t143 => (if t142 < 0 then (some (false, (⟨#[]⟩ : ByteArray))) else (if t143 < 0 then (some (false, (⟨#[]⟩ : ByteArray))) else ((spec_l14Plain.f ((wrap64 ((wrap64 (t142 * 16)) + t143)) % 256)).bind fun t144 => (if t144 = true then (some (false, (⟨#[]⟩ : ByteArray))) else (if x3_1.length < 140737488355328 then (spec_Unquote.l0 kj15 a0 (x3_1 ++ [(wrap64 ((wrap64 (t142 * 16)) + t143)) % 256]) (wrap64 ((wrap64 (x4_1 + 2)) + 1))) else (none))))))) else (none)) else (none)) = some (r1, r2) := H
            have A25 := Aside0.mk A250
            clear A250
            obtain ⟨ji26, hji26⟩ : ∃ j_ : Int, (wrap64 (x4_1 + 2)) = j_ := ⟨_, rfl⟩
            replace H : (if 0 ≤ (ji26) then (if (ji26) < (a0.size : Int) then ((spec_l14Digit.f kj15 (bt a0 (ji26))).bind fun t143 => (if t142 < 0 then (some (false, (⟨#[]⟩ : ByteArray))) else (if t143 < 0 then (some (false, (⟨#[]⟩ : ByteArray))) else ((spec_l14Plain.f ((wrap64 ((wrap64 (t142 * 16)) + t143)) % 256)).bind fun t144 => (if t144 = true then (some (false, (⟨#[]⟩ : ByteArray))) else (if x3_1.length < 140737488355328 then (spec_Unquote.l0 kj15 a0 (x3_1 ++ [(wrap64 ((wrap64 (t142 * 16)) + t143)) % 256]) (wrap64 ((ji26) + 1))) else (none))))))) else (none)) else (none)) = some (r1, r2) := by first | (rw [hji26] at H; exact H) | (simp only [hji26] at H ⊢; exact H)
            (try rw [hji26] at A25)
            have hji26w : (IntKind.i64.wrap (x4_1 + 2)) = ji26 := (i64_w _).trans hji26
            by_cases c27 : 0 ≤ (ji26)
            ·
             rw [if_pos c27] at H
             have c27b0 : decide (0 ≤ (ji26)) = true := decide_eq_true c27
             clear c27
             by_cases c28 : (ji26) < (a0.size : Int)
             ·
              rw [if_pos c28] at H
              have c28b0 : decide ((ji26) < (a0.size : Int)) = true := decide_eq_true c28
              clear c28
              replace H := Option.bind_eq_some_iff.mp H
              obtain ⟨t143, A300, H⟩ := H
              replace H : (if t142 < 0 then (some (false, (⟨#[]⟩ : ByteArray))) else (if t143 < 0 then (some (false, (⟨#[]⟩ : ByteArray))) else ((spec_l14Plain.f ((wrap64 ((wrap64 (t142 * 16)) + t143)) % 256)).bind fun t144 => (if t144 = true then (some (false, (⟨#[]⟩ : ByteArray))) else (if x3_1.length < 140737488355328 then (spec_Unquote.l0 kj15 a0 (x3_1 ++ [(wrap64 ((wrap64 (t142 * 16)) + t143)) % 256]) (wrap64 ((ji26) + 1))) else (none)))))) = some (r1, r2) := H
              have A30 := Aside0.mk A300
              clear A300
              by_cases c31 : t142 < 0
              ·
               rw [if_pos c31] at H
               have c31b0 : decide (t142 < 0) = true := decide_eq_true c31
               clear c31
               simp only [Option.some.injEq, Prod.mk.injEq] at H
               obtain ⟨rfl, rfl⟩ := H
               have p24 : 0 ≤ ((ji21) : Int) := of_decide_eq_true (by first | (with_reducible assumption) | assumption)
               have q24 : (ji21) < (a0.size : Int) := of_decide_eq_true (by first | (with_reducible assumption) | assumption)
               have hx24 := bt_at a0 (ji21)
               replace p24 := eq_true p24
               replace q24 := eq_true q24
               go_wp2_with (first | ((with_reducible refine gate_callee (f := 81) rfl ?_); refine goesL_ (some 43) rfl rfl Tryd.func81 (by kernel_rfl) rfl #[.int .u8 (bt a0 (ji21))] rfl (by (try simp only [List.map_toArray, List.map_cons, List.map_nil]); first | done | (simp only [hji21]; rfl) | rfl | (simp only [List.length_drop, List.length_take]; rfl)) ?_; (with_reducible refine (spec_l14Digit.calls kj15 (bt a0 (ji21)) t142 _ A25.out).mono ?_); rintro e w' ⟨rfl, ⟨nd, rfl⟩⟩; refine ⟨_, rfl, ?_⟩; (try (rw [drewN_self wc]; generalize hq_ : World.drewN wc _ = wc; replace HO_3 : Aside0 (Kd.R (Kd.int .u8) 5 wc w.heap.size (fun _ => True) u3 x3_1) := ⟨by rw [← hq_]; exact (Rgn.rq HO_3.out)⟩; replace BK134 : Aside0 (wc.heap[gb134]? = some (.cells #[.bool x135000_1, .string x135001_1] 77 (0, 0))) := ⟨by rw [← hq_]; exact (Rgn.kb BK134.out)⟩; replace HB : Aside0 (Below w.heap.size w wc) := ⟨by rw [← hq_]; exact (Rgn.bq HB.out)⟩; clear hq_)); have p29 : 0 ≤ ((ji26) : Int) := of_decide_eq_true (by first | (with_reducible assumption) | assumption); have q29 : (ji26) < (a0.size : Int) := of_decide_eq_true (by first | (with_reducible assumption) | assumption); have hx29 := bt_at a0 (ji26); replace p29 := eq_true p29; replace q29 := eq_true q29) | ((with_reducible refine gate_callee (f := 81) rfl ?_); refine goesL_ (some 48) rfl rfl Tryd.func81 (by kernel_rfl) rfl #[.int .u8 (bt a0 (ji26))] rfl (by (try simp only [List.map_toArray, List.map_cons, List.map_nil]); first | done | (simp only [hji26]; rfl) | rfl | (simp only [List.length_drop, List.length_take]; rfl)) ?_; (with_reducible refine (spec_l14Digit.calls kj15 (bt a0 (ji26)) t143 _ A30.out).mono ?_); rintro e w' ⟨rfl, ⟨nd, rfl⟩⟩; refine ⟨_, rfl, ?_⟩; (try (rw [drewN_self wc]; generalize hq_ : World.drewN wc _ = wc; replace HO_3 : Aside0 (Kd.R (Kd.int .u8) 5 wc w.heap.size (fun _ => True) u3 x3_1) := ⟨by rw [← hq_]; exact (Rgn.rq HO_3.out)⟩; replace BK134 : Aside0 (wc.heap[gb134]? = some (.cells #[.bool x135000_1, .string x135001_1] 77 (0, 0))) := ⟨by rw [← hq_]; exact (Rgn.kb BK134.out)⟩; replace HB : Aside0 (Below w.heap.size w wc) := ⟨by rw [← hq_]; exact (Rgn.bq HB.out)⟩; clear hq_)); obtain ⟨hcz32_0, hcz32_1, hfz32_0, hfz32_1⟩ := Rgn.c2 BK134.out))
               refine bodyPost_ret (results_cell_row rfl _ _ gb134 77 #[.bool false, .string (⟨#[]⟩ : ByteArray)] (0, 0) _ rfl (by (with_reducible repeat (first | refine blk_drewN ?_ _ | refine blk_drew ?_ | refine blk_alloc ?_ _)); refine blk_put (cs := #[.bool false, .string x135001_1]) ?_ 1 _ rfl; (with_reducible repeat (first | refine blk_drewN ?_ _ | refine blk_drew ?_ | refine blk_alloc ?_ _)); refine blk_put (cs := #[.bool x135000_1, .string x135001_1]) ?_ 0 _ rfl; (with_reducible repeat (first | refine blk_drewN ?_ _ | refine blk_drew ?_ | refine blk_alloc ?_ _)); exact BK134.out) Tryd.underlying77 rfl (by kernel_rfl)) rfl ?_
               exact ⟨by first | rfl | (simp [errW_none, errW_some] <;> rfl) | (simp only [← hji21, ← hji26]; first | rfl | (simp [errW_none, errW_some] <;> rfl)) | (simp [*, errW_none, errW_some] <;> rfl), Rgn.bq HB.out⟩
              ·
               rw [if_neg c31] at H
               have c31b0 : decide (t142 < 0) = false := decide_eq_false c31
               clear c31
               by_cases c33 : t143 < 0
               ·
                rw [if_pos c33] at H
                have c33b0 : decide (t143 < 0) = true := decide_eq_true c33
                clear c33
                simp only [Option.some.injEq, Prod.mk.injEq] at H
                obtain ⟨rfl, rfl⟩ := H
                have p24 : 0 ≤ ((ji21) : Int) := of_decide_eq_true (by first | (with_reducible assumption) | assumption)
                have q24 : (ji21) < (a0.size : Int) := of_decide_eq_true (by first | (with_reducible assumption) | assumption)
                have hx24 := bt_at a0 (ji21)
                replace p24 := eq_true p24
                replace q24 := eq_true q24
                go_wp2_with (first | ((with_reducible refine gate_callee (f := 81) rfl ?_); refine goesL_ (some 43) rfl rfl Tryd.func81 (by kernel_rfl) rfl #[.int .u8 (bt a0 (ji21))] rfl (by (try simp only [List.map_toArray, List.map_cons, List.map_nil]); first | done | (simp only [hji21]; rfl) | rfl | (simp only [List.length_drop, List.length_take]; rfl)) ?_; (with_reducible refine (spec_l14Digit.calls kj15 (bt a0 (ji21)) t142 _ A25.out).mono ?_); rintro e w' ⟨rfl, ⟨nd, rfl⟩⟩; refine ⟨_, rfl, ?_⟩; (try (rw [drewN_self wc]; generalize hq_ : World.drewN wc _ = wc; replace HO_3 : Aside0 (Kd.R (Kd.int .u8) 5 wc w.heap.size (fun _ => True) u3 x3_1) := ⟨by rw [← hq_]; exact (Rgn.rq HO_3.out)⟩; replace BK134 : Aside0 (wc.heap[gb134]? = some (.cells #[.bool x135000_1, .string x135001_1] 77 (0, 0))) := ⟨by rw [← hq_]; exact (Rgn.kb BK134.out)⟩; replace HB : Aside0 (Below w.heap.size w wc) := ⟨by rw [← hq_]; exact (Rgn.bq HB.out)⟩; clear hq_)); have p29 : 0 ≤ ((ji26) : Int) := of_decide_eq_true (by first | (with_reducible assumption) | assumption); have q29 : (ji26) < (a0.size : Int) := of_decide_eq_true (by first | (with_reducible assumption) | assumption); have hx29 := bt_at a0 (ji26); replace p29 := eq_true p29; replace q29 := eq_true q29) | ((with_reducible refine gate_callee (f := 81) rfl ?_); refine goesL_ (some 48) rfl rfl Tryd.func81 (by kernel_rfl) rfl #[.int .u8 (bt a0 (ji26))] rfl (by (try simp only [List.map_toArray, List.map_cons, List.map_nil]); first | done | (simp only [hji26]; rfl) | rfl | (simp only [List.length_drop, List.length_take]; rfl)) ?_; (with_reducible refine (spec_l14Digit.calls kj15 (bt a0 (ji26)) t143 _ A30.out).mono ?_); rintro e w' ⟨rfl, ⟨nd, rfl⟩⟩; refine ⟨_, rfl, ?_⟩; (try (rw [drewN_self wc]; generalize hq_ : World.drewN wc _ = wc; replace HO_3 : Aside0 (Kd.R (Kd.int .u8) 5 wc w.heap.size (fun _ => True) u3 x3_1) := ⟨by rw [← hq_]; exact (Rgn.rq HO_3.out)⟩; replace BK134 : Aside0 (wc.heap[gb134]? = some (.cells #[.bool x135000_1, .string x135001_1] 77 (0, 0))) := ⟨by rw [← hq_]; exact (Rgn.kb BK134.out)⟩; replace HB : Aside0 (Below w.heap.size w wc) := ⟨by rw [← hq_]; exact (Rgn.bq HB.out)⟩; clear hq_)); obtain ⟨hcz34_0, hcz34_1, hfz34_0, hfz34_1⟩ := Rgn.c2 BK134.out))
                refine bodyPost_ret (results_cell_row rfl _ _ gb134 77 #[.bool false, .string (⟨#[]⟩ : ByteArray)] (0, 0) _ rfl (by (with_reducible repeat (first | refine blk_drewN ?_ _ | refine blk_drew ?_ | refine blk_alloc ?_ _)); refine blk_put (cs := #[.bool false, .string x135001_1]) ?_ 1 _ rfl; (with_reducible repeat (first | refine blk_drewN ?_ _ | refine blk_drew ?_ | refine blk_alloc ?_ _)); refine blk_put (cs := #[.bool x135000_1, .string x135001_1]) ?_ 0 _ rfl; (with_reducible repeat (first | refine blk_drewN ?_ _ | refine blk_drew ?_ | refine blk_alloc ?_ _)); exact BK134.out) Tryd.underlying77 rfl (by kernel_rfl)) rfl ?_
                exact ⟨by first | rfl | (simp [errW_none, errW_some] <;> rfl) | (simp only [← hji21, ← hji26]; first | rfl | (simp [errW_none, errW_some] <;> rfl)) | (simp [*, errW_none, errW_some] <;> rfl), Rgn.bq HB.out⟩
               ·
                rw [if_neg c33] at H
                have c33b0 : decide (t143 < 0) = false := decide_eq_false c33
                clear c33
                replace H := Option.bind_eq_some_iff.mp H
                obtain ⟨t144, A350, H⟩ := H
                replace H : (if t144 = true then (some (false, (⟨#[]⟩ : ByteArray))) else (if x3_1.length < 140737488355328 then (spec_Unquote.l0 kj15 a0 (x3_1 ++ [(wrap64 ((wrap64 (t142 * 16)) + t143)) % 256]) (wrap64 ((ji26) + 1))) else (none))) = some (r1, r2) := H
                have A35 := Aside0.mk A350
                clear A350
                by_cases c36 : t144 = true
                ·
                 subst c36
                 replace H := Rgn.ip H
                 simp only [Option.some.injEq, Prod.mk.injEq] at H
                 obtain ⟨rfl, rfl⟩ := H
                 have p24 : 0 ≤ ((ji21) : Int) := of_decide_eq_true (by first | (with_reducible assumption) | assumption)
                 have q24 : (ji21) < (a0.size : Int) := of_decide_eq_true (by first | (with_reducible assumption) | assumption)
                 have hx24 := bt_at a0 (ji21)
                 replace p24 := eq_true p24
                 replace q24 := eq_true q24
                 go_wp2_with (first | ((with_reducible refine gate_callee (f := 81) rfl ?_); refine goesL_ (some 43) rfl rfl Tryd.func81 (by kernel_rfl) rfl #[.int .u8 (bt a0 (ji21))] rfl (by (try simp only [List.map_toArray, List.map_cons, List.map_nil]); first | done | (simp only [hji21]; rfl) | rfl | (simp only [List.length_drop, List.length_take]; rfl)) ?_; (with_reducible refine (spec_l14Digit.calls kj15 (bt a0 (ji21)) t142 _ A25.out).mono ?_); rintro e w' ⟨rfl, ⟨nd, rfl⟩⟩; refine ⟨_, rfl, ?_⟩; (try (rw [drewN_self wc]; generalize hq_ : World.drewN wc _ = wc; replace HO_3 : Aside0 (Kd.R (Kd.int .u8) 5 wc w.heap.size (fun _ => True) u3 x3_1) := ⟨by rw [← hq_]; exact (Rgn.rq HO_3.out)⟩; replace BK134 : Aside0 (wc.heap[gb134]? = some (.cells #[.bool x135000_1, .string x135001_1] 77 (0, 0))) := ⟨by rw [← hq_]; exact (Rgn.kb BK134.out)⟩; replace HB : Aside0 (Below w.heap.size w wc) := ⟨by rw [← hq_]; exact (Rgn.bq HB.out)⟩; clear hq_)); have p29 : 0 ≤ ((ji26) : Int) := of_decide_eq_true (by first | (with_reducible assumption) | assumption); have q29 : (ji26) < (a0.size : Int) := of_decide_eq_true (by first | (with_reducible assumption) | assumption); have hx29 := bt_at a0 (ji26); replace p29 := eq_true p29; replace q29 := eq_true q29) | ((with_reducible refine gate_callee (f := 81) rfl ?_); refine goesL_ (some 48) rfl rfl Tryd.func81 (by kernel_rfl) rfl #[.int .u8 (bt a0 (ji26))] rfl (by (try simp only [List.map_toArray, List.map_cons, List.map_nil]); first | done | (simp only [hji26]; rfl) | rfl | (simp only [List.length_drop, List.length_take]; rfl)) ?_; (with_reducible refine (spec_l14Digit.calls kj15 (bt a0 (ji26)) t143 _ A30.out).mono ?_); rintro e w' ⟨rfl, ⟨nd, rfl⟩⟩; refine ⟨_, rfl, ?_⟩; (try (rw [drewN_self wc]; generalize hq_ : World.drewN wc _ = wc; replace HO_3 : Aside0 (Kd.R (Kd.int .u8) 5 wc w.heap.size (fun _ => True) u3 x3_1) := ⟨by rw [← hq_]; exact (Rgn.rq HO_3.out)⟩; replace BK134 : Aside0 (wc.heap[gb134]? = some (.cells #[.bool x135000_1, .string x135001_1] 77 (0, 0))) := ⟨by rw [← hq_]; exact (Rgn.kb BK134.out)⟩; replace HB : Aside0 (Below w.heap.size w wc) := ⟨by rw [← hq_]; exact (Rgn.bq HB.out)⟩; clear hq_))) | (go_at_call 72; (with_reducible refine (spec_l14Plain.calls ((wrap64 ((wrap64 (t142 * 16)) + t143)) % 256) true _ A35.out).mono ?_); rintro e w' ⟨rfl, ⟨nd, rfl⟩⟩; (try (rw [drewN_self wc]; generalize hq_ : World.drewN wc _ = wc; replace HO_3 : Aside0 (Kd.R (Kd.int .u8) 5 wc w.heap.size (fun _ => True) u3 x3_1) := ⟨by rw [← hq_]; exact (Rgn.rq HO_3.out)⟩; replace BK134 : Aside0 (wc.heap[gb134]? = some (.cells #[.bool x135000_1, .string x135001_1] 77 (0, 0))) := ⟨by rw [← hq_]; exact (Rgn.kb BK134.out)⟩; replace HB : Aside0 (Below w.heap.size w wc) := ⟨by rw [← hq_]; exact (Rgn.bq HB.out)⟩; clear hq_)); obtain ⟨hcz37_0, hcz37_1, hfz37_0, hfz37_1⟩ := Rgn.c2 BK134.out))
                 refine bodyPost_ret (results_cell_row rfl _ _ gb134 77 #[.bool false, .string (⟨#[]⟩ : ByteArray)] (0, 0) _ rfl (by (with_reducible repeat (first | refine blk_drewN ?_ _ | refine blk_drew ?_ | refine blk_alloc ?_ _)); refine blk_put (cs := #[.bool false, .string x135001_1]) ?_ 1 _ rfl; (with_reducible repeat (first | refine blk_drewN ?_ _ | refine blk_drew ?_ | refine blk_alloc ?_ _)); refine blk_put (cs := #[.bool x135000_1, .string x135001_1]) ?_ 0 _ rfl; (with_reducible repeat (first | refine blk_drewN ?_ _ | refine blk_drew ?_ | refine blk_alloc ?_ _)); exact BK134.out) Tryd.underlying77 rfl (by kernel_rfl)) rfl ?_
                 exact ⟨by first | rfl | (simp [errW_none, errW_some] <;> rfl) | (simp only [← hji21, ← hji26]; first | rfl | (simp [errW_none, errW_some] <;> rfl)) | (simp [*, errW_none, errW_some] <;> rfl), Rgn.bq HB.out⟩
                ·
                 replace c36 := Bool.eq_false_iff.mpr c36
                 subst c36
                 replace H := Rgn.im H
                 by_cases c38 : x3_1.length < 140737488355328
                 ·
                  rw [if_pos c38] at H
                  have LMc38 := Aside0.mk c38
                  clear c38
                  obtain ⟨y145, hy145⟩ : ∃ y_ : List Int, y_ = (x3_1 ++ [(wrap64 ((wrap64 (t142 * 16)) + t143)) % 256]) := ⟨_, rfl⟩
                  replace H : (spec_Unquote.l0 kj15 a0 y145 (wrap64 ((ji26) + 1))) = some (r1, r2) := by first | (rw [hy145]; with_reducible exact H) | (have H2_ := (Option.bind_some _ _).symm.trans H; rw [hy145]; with_reducible exact H2_) | (have H2_ := (Option.bind_some _ _).symm.trans H; with_reducible exact H2_) | with_reducible exact H | (rw [hy145]; exact H) | exact H
                  have Ny145 := Aside0.mk hy145
                  clear hy145
                  have H' := Aside0.mk H
                  clear H
                  have p24 : 0 ≤ ((ji21) : Int) := of_decide_eq_true (by first | (with_reducible assumption) | assumption)
                  have q24 : (ji21) < (a0.size : Int) := of_decide_eq_true (by first | (with_reducible assumption) | assumption)
                  have hx24 := bt_at a0 (ji21)
                  replace p24 := eq_true p24
                  replace q24 := eq_true q24
                  go_wp2_with (first | ((with_reducible refine gate_callee (f := 81) rfl ?_); refine goesL_ (some 43) rfl rfl Tryd.func81 (by kernel_rfl) rfl #[.int .u8 (bt a0 (ji21))] rfl (by (try simp only [List.map_toArray, List.map_cons, List.map_nil]); first | done | (simp only [hji21]; rfl) | rfl | (simp only [List.length_drop, List.length_take]; rfl)) ?_; (with_reducible refine (spec_l14Digit.calls kj15 (bt a0 (ji21)) t142 _ A25.out).mono ?_); rintro e w' ⟨rfl, ⟨nd, rfl⟩⟩; refine ⟨_, rfl, ?_⟩; have p29 : 0 ≤ ((ji26) : Int) := of_decide_eq_true (by first | (with_reducible assumption) | assumption); have q29 : (ji26) < (a0.size : Int) := of_decide_eq_true (by first | (with_reducible assumption) | assumption); have hx29 := bt_at a0 (ji26); replace p29 := eq_true p29; replace q29 := eq_true q29) | ((with_reducible refine gate_callee (f := 81) rfl ?_); refine goesL_ (some 48) rfl rfl Tryd.func81 (by kernel_rfl) rfl #[.int .u8 (bt a0 (ji26))] rfl (by (try simp only [List.map_toArray, List.map_cons, List.map_nil]); first | done | (simp only [hji26]; rfl) | rfl | (simp only [List.length_drop, List.length_take]; rfl)) ?_; (with_reducible refine (spec_l14Digit.calls kj15 (bt a0 (ji26)) t143 _ A30.out).mono ?_); rintro e w' ⟨rfl, ⟨nd, rfl⟩⟩; refine ⟨_, rfl, ?_⟩) | (go_at_call 72; (with_reducible refine (spec_l14Plain.calls ((wrap64 ((wrap64 (t142 * 16)) + t143)) % 256) false _ A35.out).mono ?_); rintro e w' ⟨rfl, ⟨nd, rfl⟩⟩) | ((with_reducible refine gate_builtin (b := .append) (xs := #[.tmp 64, .tmp 70]) rfl ?_); (try (refine gate_guard (by rfl) ?_; dsimp only)); at_builtin; refine Kd.R_append (Kd.int .u8) (w0 := w) w.heap.size rfl (.tmp 64) (.tmp 70) 22 5 (.int .u8 0) 1 rfl Tryd.underlying22 info5 rfl (by decide) (by omega) u3 x3_1 ((wrap64 ((wrap64 (t142 * 16)) + t143)) % 256) [.int .u8 ((wrap64 ((wrap64 (t142 * 16)) + t143)) % 256)] (fun _ => True) (fun _ => False) rfl rfl ?aP (fun _ hk => hk.elim) ?aF ?aO ?aB ?aS ?aL ?_; (case aP => exact rfl); (case aB => exact (Rgn.bq HB.out)); (case aF => exact (fun _ _ => trivial)); (case aO => exact (Rgn.rq HO_3.out)); (case aS => exact (below_size (Rgn.bq HB.out))); (case aL => have := LMc38.out; omega); intro v146 w39 ho hb hg hat; rw [← Ny145.out] at ho; replace BK134 := Aside0.mk (Rgn.bg BK134.out hg (Kd.R_ne HO_3.out BK134.out (by decide))); replace HB := Aside0.mk (hb); have HO147 := Aside0.mk (ho); clear HO_3; clear ho hb hg hat))
                  go_roundg kj15
                  case measure => have := HK1.out; have := HJ15.out; omega
                  case rel => exact ⟨(y145), (wrap64 ((ji26) + 1)), (x135000_1), (x135001_1), (by first | rfl | (simp; done) | (simp only [← hji26] <;> (first | rfl | simp)) | (simp [*]; done)), H', ⟨by have := HK1.out; have := HJ15.out; omega⟩, ⟨Rgn.rq HO147.out⟩, ⟨Rgn.kb BK134.out⟩, ⟨Rgn.bq HB.out⟩⟩
                 ·
                  rw [if_neg c38] at H
                  exact absurd H (by simp)
             ·
              rw [if_neg c28] at H
              exact absurd H (by simp)
            ·
             rw [if_neg c27] at H
             exact absurd H (by simp)
           ·
            rw [if_neg c23] at H
            exact absurd H (by simp)
          ·
           rw [if_neg c22] at H
           exact absurd H (by simp)
     ·
      rw [if_neg c9] at H
      exact absurd H (by simp)
    ·
     rw [if_neg c8] at H
     have c8b0 : decide (x4_1 < (a0.size : Int)) = false := decide_eq_false c8
     clear c8
     by_cases c40 : (x3_1.length : Int) = 0
     ·
      rw [if_pos c40] at H
      have c40b0 : ((x3_1.length : Int) == 0) = true := beq_iff_eq.mpr c40
      have c40b1 : ((x3_1.length : Int) != 0) = false := bne_eq_false_iff_eq.mpr c40
      clear c40
      simp only [Option.some.injEq, Prod.mk.injEq] at H
      obtain ⟨rfl, rfl⟩ := H
      obtain ⟨Ao41, co41, eo41⟩ := Kd.R_slice HO_3.out
      subst eo41
      have hcz42_0 := Rgn.cz0 BK134.out
      have hcz42_1 := Rgn.cz1 BK134.out
      have hfz42_0 := blk_frozen BK134.out 0
      have hfz42_1 := blk_frozen BK134.out 1
      go_wp2
      refine bodyPost_ret (results_cell_row rfl _ _ gb134 77 #[.bool false, .string (⟨#[]⟩ : ByteArray)] (0, 0) _ rfl (by (with_reducible repeat (first | refine blk_drewN ?_ _ | refine blk_drew ?_ | refine blk_alloc ?_ _)); refine blk_put (cs := #[.bool false, .string x135001_1]) ?_ 1 _ rfl; (with_reducible repeat (first | refine blk_drewN ?_ _ | refine blk_drew ?_ | refine blk_alloc ?_ _)); refine blk_put (cs := #[.bool x135000_1, .string x135001_1]) ?_ 0 _ rfl; (with_reducible repeat (first | refine blk_drewN ?_ _ | refine blk_drew ?_ | refine blk_alloc ?_ _)); exact BK134.out) Tryd.underlying77 rfl (by kernel_rfl)) rfl ?_
      exact ⟨by first | rfl | (simp [errW_none, errW_some] <;> rfl) | (simp [*, errW_none, errW_some] <;> rfl), Rgn.bq HB.out⟩
     ·
      rw [if_neg c40] at H
      have c40b0 : ((x3_1.length : Int) == 0) = false := beq_eq_false_iff_ne.mpr c40
      have c40b1 : ((x3_1.length : Int) != 0) = true := bne_iff_ne.mpr c40
      have c40b2 : ¬ (x3_1 = []) := fun h_ => c40 (by rw [h_]; rfl)
      by_cases c43 : (x3_1.length : Int) > 65536
      ·
       rw [if_pos c43] at H
       have c43b0 : decide (65536 < (x3_1.length : Int)) = true := decide_eq_true c43
       have c43b1 : decide (65536 < x3_1.length) = true := decide_eq_true (by omega)
       clear c43
       simp only [Option.some.injEq, Prod.mk.injEq] at H
       obtain ⟨rfl, rfl⟩ := H
       obtain ⟨Ao44, co44, eo44⟩ := Kd.R_slice HO_3.out
       subst eo44
       have hcz45_0 := Rgn.cz0 BK134.out
       have hcz45_1 := Rgn.cz1 BK134.out
       have hfz45_0 := blk_frozen BK134.out 0
       have hfz45_1 := blk_frozen BK134.out 1
       go_wp2
       refine bodyPost_ret (results_cell_row rfl _ _ gb134 77 #[.bool false, .string (⟨#[]⟩ : ByteArray)] (0, 0) _ rfl (by (with_reducible repeat (first | refine blk_drewN ?_ _ | refine blk_drew ?_ | refine blk_alloc ?_ _)); refine blk_put (cs := #[.bool false, .string x135001_1]) ?_ 1 _ rfl; (with_reducible repeat (first | refine blk_drewN ?_ _ | refine blk_drew ?_ | refine blk_alloc ?_ _)); refine blk_put (cs := #[.bool x135000_1, .string x135001_1]) ?_ 0 _ rfl; (with_reducible repeat (first | refine blk_drewN ?_ _ | refine blk_drew ?_ | refine blk_alloc ?_ _)); exact BK134.out) Tryd.underlying77 rfl (by kernel_rfl)) rfl ?_
       exact ⟨by first | rfl | (simp [errW_none, errW_some] <;> rfl) | (simp [*, errW_none, errW_some] <;> rfl), Rgn.bq HB.out⟩
      ·
       rw [if_neg c43] at H
       have c43b0 : decide (65536 < (x3_1.length : Int)) = false := decide_eq_false c43
       have c43b1 : decide (65536 < x3_1.length) = false := decide_eq_false (by omega)
       clear c43
       simp only [Option.some.injEq, Prod.mk.injEq] at H
       obtain ⟨rfl, rfl⟩ := H
       obtain ⟨Ao46, co46, eo46⟩ := Kd.R_slice HO_3.out
       subst eo46
       have hcv47 := own_string (P := Tryd.prog) Tryd.underlying22 Tryd.underlying5 Tryd.underlying9 (Kd.own_of_R HO_3.out)
       have hcz48_0 := Rgn.cz0 BK134.out
       have hcz48_1 := Rgn.cz1 BK134.out
       have hfz48_0 := blk_frozen BK134.out 0
       have hfz48_1 := blk_frozen BK134.out 1
       go_wp2
       refine bodyPost_ret (results_cell_row rfl _ _ gb134 77 #[.bool true, .string (strOfNums x3_1)] (0, 0) _ rfl (by (with_reducible repeat (first | refine blk_drewN ?_ _ | refine blk_drew ?_ | refine blk_alloc ?_ _)); refine blk_put (cs := #[.bool true, .string x135001_1]) ?_ 1 _ rfl; (with_reducible repeat (first | refine blk_drewN ?_ _ | refine blk_drew ?_ | refine blk_alloc ?_ _)); refine blk_put (cs := #[.bool x135000_1, .string x135001_1]) ?_ 0 _ rfl; (with_reducible repeat (first | refine blk_drewN ?_ _ | refine blk_drew ?_ | refine blk_alloc ?_ _)); exact BK134.out) Tryd.underlying77 rfl (by kernel_rfl)) rfl ?_
       exact ⟨by first | rfl | (simp [errW_none, errW_some] <;> rfl) | (simp [*, errW_none, errW_some] <;> rfl), Rgn.bq HB.out⟩

/-! ### spec_l14Letters: function 62 -/
def spec_l14Letters.l0 : Nat → Int → Int → List Int → Int → Option (ByteArray)
 | 0, _, _, _, _ => none
 | k + 1, x0, x1, x5, x6 => if x6 < x0 then (if x5.length < 140737488355328 then (spec_l14Letters.l0 k x0 x1 (x5 ++ [(wrap64 (97 + (Int.tmod (wrap64 (((x1 - 97) % 256) + x6)) 26))) % 256]) (wrap64 (x6 + 1))) else (none)) else (some (strOfNums x5))
def spec_l14Letters.f (k : Nat) (a0 : Int) (a1 : Int) : Option (ByteArray) := spec_l14Letters.l0 k a0 a1 (([] : List Int)) 0
set_option maxHeartbeats 8000000 in
set_option maxRecDepth 100000 in
theorem spec_l14Letters.calls (k : Nat) (a0 : Int) (a1 : Int) (r : ByteArray) (w : World) (h : spec_l14Letters.f k a0 a1 = some r) :
  Calls Tryd.prog 62 #[.int .i64 a0, .int .u8 a1] w fun e w' => e = .returned (.string r) ∧ Below w.heap.size w w' := by
 have HB := Aside0.mk (Below.refl w.heap.size w)
 have H : (spec_l14Letters.l0 k a0 a1 (([] : List Int)) 0) = some r := h
 clear h
 obtain ⟨y148, hy148⟩ : ∃ y_ : List Int, y_ = (([] : List Int)) := ⟨_, rfl⟩
 replace H : (spec_l14Letters.l0 k a0 a1 y148 0) = some r := by first | (rw [hy148]; with_reducible exact H) | (have H2_ := (Option.bind_some _ _).symm.trans H; rw [hy148]; with_reducible exact H2_) | (have H2_ := (Option.bind_some _ _).symm.trans H; with_reducible exact H2_) | with_reducible exact H | (rw [hy148]; exact H) | exact H
 have Ny148 := Aside0.mk hy148
 clear hy148
 have H' := Aside0.mk H
 clear H
 go_enter Tryd.func62, Tryd.ntmps62
 go_wp2_with (first | ((with_reducible refine gate_dst (N := 7) rfl ?_); refine Kd.R_lit (Kd.int .u8) _ 5 ?hg (N := 7) ?hd (xs := ([] : List Int)) (inner := []) (ok := fun _ => True) (okp := fun _ => True) ?hr ?hp (fun _ hk => hk) trivial (Below.refl _ _) (Nat.le_refl _) (by simp) ?_; (case hd => rfl); (case hg => rfl); (case hr => first | (go_simp; done) | (go_simp; rfl)); (case hp => exact (Reps.none _ _)); intro v149 w3 ho4 hb hg_ hnew_; clear hg_ hnew_; (first | rw [← Ny148.out] at ho4 | (simp only [Int.reduceToNat] at ho4; rw [← Ny148.out] at ho4)); have HO150 := Aside0.mk (Kd.R_lower ho4 (below_size (Rgn.bq HB.out))); replace HB := Aside0.mk (below_step (Rgn.bq HB.out) hb); clear hb ho4))
 go_loopg [5, 6] k (fun kq v5 v6 w' => ∃ (x5_1 : List Int) (x6_1 : Int), v6 = .int .i64 x6_1 ∧ Aside0 (spec_l14Letters.l0 kq a0 a1 x5_1 x6_1 = some r) ∧ Aside0 (kq ≤ k) ∧ Aside0 (Kd.R (Kd.int .u8) 5 w' w.heap.size (fun _ => True) v5 x5_1) ∧ Aside0 (Below w.heap.size w w'))
 case atStart => exact ⟨(y148), (0), (by first | rfl | (simp; done) | (simp [*]; done)), H', ⟨Nat.le_refl _⟩, ⟨Rgn.rq HO150.out⟩, ⟨Rgn.bq HB.out⟩⟩
 case round =>
  clear H'
  obtain ⟨x5_1, x6_1, rfl, HA, HK1, HO_5, HB⟩ := hrel
  cases gk with
  | zero => exact absurd HA.out (by simp [spec_l14Letters.l0])
  | succ k1 =>
   have H := HA.out
   clear HA
   simp only [spec_l14Letters.l0] at H
   by_cases c5 : x6_1 < a0
   ·
    rw [if_pos c5] at H
    have c5b0 : decide (x6_1 < a0) = true := decide_eq_true c5
    clear c5
    by_cases c6 : x5_1.length < 140737488355328
    ·
     rw [if_pos c6] at H
     have LMc6 := Aside0.mk c6
     clear c6
     obtain ⟨y151, hy151⟩ : ∃ y_ : List Int, y_ = (x5_1 ++ [(wrap64 (97 + (Int.tmod (wrap64 (((a1 - 97) % 256) + x6_1)) 26))) % 256]) := ⟨_, rfl⟩
     replace H : (spec_l14Letters.l0 k1 a0 a1 y151 (wrap64 (x6_1 + 1))) = some r := by first | (rw [hy151]; with_reducible exact H) | (have H2_ := (Option.bind_some _ _).symm.trans H; rw [hy151]; with_reducible exact H2_) | (have H2_ := (Option.bind_some _ _).symm.trans H; with_reducible exact H2_) | with_reducible exact H | (rw [hy151]; exact H) | exact H
     have Ny151 := Aside0.mk hy151
     clear hy151
     have H' := Aside0.mk H
     clear H
     go_wp2_with (first | ((with_reducible refine gate_builtin (b := .append) (xs := #[.tmp 13, .tmp 22]) rfl ?_); at_builtin; refine Kd.R_append (Kd.int .u8) (w0 := w) w.heap.size rfl (.tmp 13) (.tmp 22) 22 5 (.int .u8 0) 1 rfl Tryd.underlying22 info5 rfl (by decide) (by omega) u5 x5_1 ((wrap64 (97 + (Int.tmod (wrap64 (((a1 - 97) % 256) + x6_1)) 26))) % 256) [.int .u8 ((wrap64 (97 + (Int.tmod (wrap64 (((a1 - 97) % 256) + x6_1)) 26))) % 256)] (fun _ => True) (fun _ => False) rfl rfl ?aP (fun _ hk => hk.elim) ?aF ?aO ?aB ?aS ?aL ?_; (case aP => exact rfl); (case aB => exact (Rgn.bq HB.out)); (case aF => exact (fun _ _ => trivial)); (case aO => exact (Rgn.rq HO_5.out)); (case aS => exact (below_size (Rgn.bq HB.out))); (case aL => have := LMc6.out; omega); intro v152 w7 ho hb hg hat; rw [← Ny151.out] at ho; replace HB := Aside0.mk (hb); have HO153 := Aside0.mk (ho); clear HO_5; clear ho hb hg hat))
     go_roundg k1
     case measure => have := HK1.out; omega
     case rel => exact ⟨(y151), (wrap64 (x6_1 + 1)), (by first | rfl | (simp; done) | (simp [*]; done)), H', ⟨by have := HK1.out; omega⟩, ⟨Rgn.rq HO153.out⟩, ⟨Rgn.bq HB.out⟩⟩
    ·
     rw [if_neg c6] at H
     exact absurd H (by simp)
   ·
    rw [if_neg c5] at H
    have c5b0 : decide (x6_1 < a0) = false := decide_eq_false c5
    clear c5
    obtain rfl := Option.some.inj H
    have hcv8 := own_string (P := Tryd.prog) Tryd.underlying22 Tryd.underlying5 Tryd.underlying9 (Kd.own_of_R HO_5.out)
    go_wp2
    go_ret
    exact ⟨by first | rfl | (simp [errW_none, errW_some] <;> rfl) | (simp [*, errW_none, errW_some] <;> rfl), Rgn.bq HB.out⟩

end Go.Proofs.YtkehfdadplpaeaaDoor.PFnExactParseLine
