-- written by a program of this session (wip/src/print2.py)
import Derived.Test.YtdhjhadcadcceaaPFnExactDiskDox0
import Derived.Test.YtdhjhadcadcceaaPFnExactDiskDox2
namespace Go.Proofs.Ytdhjhadcadcceaa.PFnExactDiskDo
open Go.RowKit Go.Proofs.YtdhjhadcadcceaaW.PrintWords Go.Proofs.YtdhjhadcadcceaaW.PrintLast Go.Proofs.YtdhjhadcadcceaaW.PrintMore
attribute [local go_sem] max2_int min2_int max_two min_two max_three min_three max_four min_four   -- for this text's walks alone
set_option linter.unusedVariables false
set_option linter.unusedSimpArgs false

/-! ### laws_toWriteS: function 71 -/
def laws_toWriteS.l0 : Nat → List (S112) → List (S62) → Int → Option ((List (S62)))
  | 0, _, _, _ => none
  | k + 1, x0, x3, x4 => if x4 < (x0.length : Int) then (if 0 ≤ x4 then ((laws_toWrite.f k ((rd_T112 x0 x4).f0) ((rd_T112 x0 x4).f1)).bind fun bt143 => (if x4 < (x3.length : Int) then (laws_toWriteS.l0 k x0 (x3.set (x4 : Int).toNat (⟨bt143.1, bt143.2⟩ : S62)) (wrap64 (x4 + 1))) else (none))) else (none)) else (some x3)
def laws_toWriteS.f (k : Nat) (l0 : List (S112)) : Option ((List (S62))) := if 0 ≤ (l0.length : Int) then (if ((l0.length : Int) : Int).toNat ≤ 8796093022208 then (laws_toWriteS.l0 k l0 (List.replicate ((l0.length : Int) : Int).toNat z62) 0) else (none)) else (none)
theorem laws_toWriteS.mono_l : ∀ k, (∀ y0 y1 y2, LeO (laws_toWriteS.l0 k y0 y1 y2) (laws_toWriteS.l0 (k + 1) y0 y1 y2))
  | 0 => fun _ _ _ r h => by simp [laws_toWriteS.l0] at h
  | k + 1 => by
    have ih0 := laws_toWriteS.mono_l k
    · intro y0 y1 y2
      unfold laws_toWriteS.l0
      repeat' first
      | (with_reducible exact ih0 _ _ _)
      | (with_reducible exact laws_toWrite.mono _ _ _)
      | (with_reducible exact LeO.refl _)
      | (with_reducible exact LeO.none _)
      | (with_reducible refine LeO.ite ?_ ?_)
      | (with_reducible refine LeO.bind ?_ (fun _ => ?_))
      | exact ih0 _ _ _
      | exact laws_toWrite.mono _ _ _
      | exact LeO.none _
      | refine LeO.ite ?_ ?_
      | refine LeO.bind ?_ (fun _ => ?_)
theorem laws_toWriteS.mono : ∀ a0 k, LeO (laws_toWriteS.f k a0) (laws_toWriteS.f (k + 1) a0) := by
  intro a0 k
  have ih0 := laws_toWriteS.mono_l k
  unfold laws_toWriteS.f
  repeat' first
      | (with_reducible exact ih0 _ _ _)
      | (with_reducible exact laws_toWrite.mono _ _ _)
      | (with_reducible exact LeO.refl _)
      | (with_reducible exact LeO.none _)
      | (with_reducible refine LeO.ite ?_ ?_)
      | (with_reducible refine LeO.bind ?_ (fun _ => ?_))
      | exact ih0 _ _ _
      | exact laws_toWrite.mono _ _ _
      | exact LeO.none _
      | refine LeO.ite ?_ ?_
      | refine LeO.bind ?_ (fun _ => ?_)
set_option maxHeartbeats 8000000 in
set_option maxRecDepth 100000 in
theorem laws_toWriteS.calls (k : Nat) (A0 : Option Addr) (c0 : Nat) (l0 : List (S112)) (r : List (S62)) (w : World) (hr0 : Kd.C k112 w A0 l0.length l0) (hc0 : l0.length ≤ c0) (h : laws_toWriteS.f k l0 = some r) :
    Calls Try.prog 71 #[.slice A0 l0.length c0] w fun e w' => ∃ v0_ : Value, e = .returned (v0_) ∧ Kd.S k62 62 w' w.heap.size (fun _ => True) v0_ r ∧ Below w.heap.size w w' := by
  have hu112 := Try.underlying112
  have hu62 := Try.underlying62
  have HR0 := Aside0.mk hr0
  have HC0 := Aside0.mk hc0
  clear hr0 hc0
  have HB := Aside0.mk (Below.refl w.heap.size w)
  have H : (if 0 ≤ (l0.length : Int) then (if ((l0.length : Int) : Int).toNat ≤ 8796093022208 then (laws_toWriteS.l0 k l0 (List.replicate ((l0.length : Int) : Int).toNat z62) 0) else (none)) else (none)) = some r := h
  clear h
  by_cases c2 : 0 ≤ (l0.length : Int)
  · rw [if_pos c2] at H
    have c2b0 := eq_true c2
    have c2b1 : decide (0 ≤ (l0.length : Int)) = true := decide_eq_true c2
    clear c2
    by_cases c3 : ((l0.length : Int) : Int).toNat ≤ 8796093022208
    · rw [if_pos c3] at H
      have c3b0 := eq_true c3
      have c3b1 : decide (((l0.length : Int) : Int).toNat ≤ 8796093022208) = true := decide_eq_true c3
      clear c3
      obtain ⟨y139, hy139⟩ : ∃ y_ : List (S62), y_ = (List.replicate ((l0.length : Int) : Int).toNat z62) := ⟨_, rfl⟩
      replace H : (laws_toWriteS.l0 k l0 y139 0) = some r := by first | (rw [hy139]; with_reducible exact H) | (have H2_ := (Option.bind_some _ _).symm.trans H; rw [hy139]; with_reducible exact H2_) | (have H2_ := (Option.bind_some _ _).symm.trans H; with_reducible exact H2_) | with_reducible exact H | (rw [hy139]; exact H) | exact H
      have Ny139 := Aside0.mk hy139
      clear hy139
      have H' := Aside0.mk H
      clear H
      go_enter Try.func71, Try.ntmps71
      go_wp2_with (first | ((with_reducible refine gate_dst (N := 7) rfl ?_); refine Kd.S_make k62 _ 62 rfl (N := 7) rfl 27 _ _ rfl (l0.length : Int) rfl rfl Try.underlying27 (.agg #[(.int .i64 0), (.slice none 0 0)]) 32 info62 rfl (by decide) (by omega) z62 (ok := fun _ => True) (okp := fun _ => True) (k62_mkM _ _ _ z62 (Kd.R_nil _ _ _ _ _)) (fun _ hk => hk) trivial (of_decide_eq_true (by first | (with_reducible assumption) | assumption)) (Nat.le_trans (Nat.mul_le_mul_right _ (of_decide_eq_true (by first | (with_reducible assumption) | assumption) : (l0.length : Int).toNat ≤ 8796093022208)) (by omega)) (Below.refl _ _) (Nat.le_refl _) ?_; intro v140 w4 ho5 hb hg_ hnew_; clear hg_ hnew_; (first | rw [← Ny139.out] at ho5 | (simp only [Int.reduceToNat] at ho5; rw [← Ny139.out] at ho5)); have n0_ := Aside0.mk (Kd.S_lower ho5 (below_size (Rgn.bq HB.out))); have n1_ := Aside0.mk (below_step (Rgn.bq HB.out) hb); clear HB; have HO141 := n0_; have HB := n1_; clear n0_ n1_; clear hb ho5))
      go_loopg [4] k (fun kq v4 w' => ∃ (x3_1 : List (S62)) (x4_1 : Int), v4 = .int .i64 x4_1 ∧ Aside0 (laws_toWriteS.l0 kq l0 x3_1 x4_1 = some r) ∧ Aside0 (kq ≤ k) ∧ Aside0 (Kd.S k62 62 w' w.heap.size (fun _ => True) v140 x3_1) ∧ Aside0 (Below w.heap.size w w'))
      case atStart => exact ⟨(y139), (0), (by first | rfl | (simp; done) | (simp [*]; done)), H', ⟨Nat.le_refl _⟩, ⟨Rgn.sq HO141.out⟩, ⟨Rgn.bq HB.out⟩⟩
      case round =>
        clear H'
        try clear c2
        try clear c2b0
        try clear c2b1
        try clear p2
        try clear c3
        try clear c3b0
        try clear c3b1
        obtain ⟨x3_1, x4_1, rfl, HA, HK1, HO_3, HB⟩ := hrel
        cases gk with
        | zero => exact absurd HA.out (by simp [laws_toWriteS.l0])
        | succ k1 =>
          have H := HA.out
          clear HA
          simp only [laws_toWriteS.l0] at H
          by_cases c6 : x4_1 < (l0.length : Int)
          · rw [if_pos c6] at H
            have c6b0 : decide (x4_1 < (l0.length : Int)) = true := decide_eq_true c6
            clear c6
            by_cases c7 : 0 ≤ x4_1
            · rw [if_pos c7] at H
              have c7b0 : decide (0 ≤ x4_1) = true := decide_eq_true c7
              clear c7
              replace H := Option.bind_eq_some_iff.mp H
              obtain ⟨⟨t143, t144⟩, A80, H⟩ := H
              replace H : (if x4_1 < (x3_1.length : Int) then (laws_toWriteS.l0 k1 l0 (x3_1.set (x4_1 : Int).toNat (⟨t143, t144⟩ : S62)) (wrap64 (x4_1 + 1))) else (none)) = some r := H
              have A8 := Aside0.mk A80
              clear A80
              by_cases c9 : x4_1 < (x3_1.length : Int)
              · rw [if_pos c9] at H
                have c9b0 : decide (x4_1 < (x3_1.length : Int)) = true := decide_eq_true c9
                clear c9
                obtain ⟨y147, hy147⟩ : ∃ y_ : List (S62), y_ = (x3_1.set (x4_1 : Int).toNat (⟨t143, t144⟩ : S62)) := ⟨_, rfl⟩
                replace H : (laws_toWriteS.l0 k1 l0 y147 (wrap64 (x4_1 + 1))) = some r := by first | (rw [hy147]; with_reducible exact H) | (have H2_ := (Option.bind_some _ _).symm.trans H; rw [hy147]; with_reducible exact H2_) | (have H2_ := (Option.bind_some _ _).symm.trans H; with_reducible exact H2_) | with_reducible exact H | (rw [hy147]; exact H) | exact H
                have Ny147 := Aside0.mk hy147
                clear hy147
                have H' := Aside0.mk H
                clear H
                have p142 : 0 ≤ (x4_1 : Int) := of_decide_eq_true (by first | (with_reducible assumption) | assumption)
                have q142 : x4_1 < (l0.length : Int) := of_decide_eq_true (by first | (with_reducible assumption) | assumption)
                obtain ⟨ad142, A142_1, c142_1, e142, hx142_0, hx142_1, hl142_1, hi142_1⟩ := at_T112 HR0.out x4_1 p142 q142
                cases e142
                replace hx142_0 := (HB.out.cell (World.block_lt_of_cell? w _ hx142_0)).trans hx142_0
                replace hx142_1 := (HB.out.cell (World.block_lt_of_cell? w _ hx142_1)).trans hx142_1
                have HR142_1 := Aside0.mk hi142_1
                have HC142_1 := Aside0.mk hl142_1
                clear hi142_1 hl142_1
                replace p142 := eq_true p142
                replace q142 := eq_true q142
                go_wp2_with (first | ((with_reducible refine gate_callee (f := 96) rfl ?_); refine Rgn.gl (some 20) Try.func96 #[.agg #[.int .i64 ((rd_T112 l0 x4_1).f0), .slice A142_1 ((rd_T112 l0 x4_1).f1).length c142_1]] ?_; (with_reducible refine (laws_toWrite.calls k1 ((rd_T112 l0 x4_1).f0) _ _ ((rd_T112 l0 x4_1).f1) t143 t144 _ ?side1 ?side2 A8.out).mono ?_); (case side1 => exact Rgn.cq (Kd.C_below HR142_1.out HB.out)); (case side2 => exact HC142_1.out); rintro e w11 ⟨v145, rfl, ho0, hb⟩; refine ⟨_, rfl, ?_⟩; have n0_ := Aside0.mk (Kd.S_elder' (Rgn.sq HO_3.out) (Kd.R_base ho0) hb); have n1_ := Aside0.mk (Kd.R_lower ho0 (below_size (Rgn.bq HB.out))); have n2_ := Aside0.mk (below_step (Rgn.bq HB.out) hb); clear HO_3; clear HB; have HO_3 := n0_; have HO146 := n1_; have HB := n2_; clear n0_ n1_ n2_; (try clear hb); (try clear hb2); (try clear hk); (try clear hi); (try clear ho0); have p10 : 0 ≤ (x4_1 : Int) := of_decide_eq_true (by first | (with_reducible assumption) | assumption); have q10 : (x4_1 : Int) < ((x3_1.length : Int) : Int) := of_decide_eq_true (by first | (with_reducible assumption) | assumption); obtain ⟨go10, co10, eo10, gb10, gl10, cl10, HG10⟩ := Kd.S_form HO_3.out (by omega); (first | cases eo10 | (injection eo10 with ea_ en_ ec_; (first | subst ea_ | (injection ea_ with ea_; subst ea_)); subst ec_; clear en_)); have GB10 := Aside0.mk gb10; have GG10 := Aside0.mk HG10; clear gb10 gl10 HG10; obtain ⟨_, ce10, hcl10, hM10, hcc10, hfr10, _, _⟩ := Kd.S_elem HO_3.out z62 (x4_1 : Int) p10 q10; obtain ⟨ve10_1, rfl, ge10_1⟩ := k62_openM hM10; have hx10_0 : w11.cell? ⟨go10, (x4_1 : Int).toNat * 2, none⟩ = some (.int .i64 ((rd_T62 x3_1 x4_1).f0)) := hcc10 0 _ rfl; have hx10_1 : w11.cell? ⟨go10, (x4_1 : Int).toNat * 2 + 1, none⟩ = some (ve10_1) := hcc10 1 _ rfl; have hf10_0 : w11.frozen? ⟨go10, (x4_1 : Int).toNat * 2, none⟩ = false := hfr10 0; have hf10_1 : w11.frozen? ⟨go10, (x4_1 : Int).toNat * 2 + 1, none⟩ = false := hfr10 1; clear hcl10 hcc10 hfr10 hM10; replace p10 := eq_true p10; replace q10 := eq_true q10; have n_ := Aside0.mk (Kd.S_mono (ok' := (fun k_ => some k_ ≠ (v145 : Value).ownBlock)) HO_3.out (fun k_ hk => hk.2)); clear HO_3; have HO_3 := n_; clear n_; have HX12 := Aside0.mk (show Kd.S k62 62 w11 w.heap.size (fun k_ => ((fun _ => True)) k_ ∧ ¬ ((fun k_ => some k_ = (v145 : Value).ownBlock)) k_) (.slice (some ⟨go10, 0, none⟩) x3_1.length co10) x3_1 from (by (with_reducible repeat (first | apply Kd.S_alloc | apply Kd.S_drewN | apply Kd.S_drew)); exact Kd.S_mono HO_3.out (fun k_ hk => ⟨trivial, fun e_ => hk e_⟩))); obtain ⟨oki12, ce12, hcl12, hM12, hcc12, hfr12, hoki12, hH12⟩ := Kd.S_elem HX12.out z62 (x4_1 : Int) (of_decide_eq_true (by first | (with_reducible assumption) | assumption)) (by have h_ : (x4_1 : Int) < ((x3_1.length : Int) : Int) := of_decide_eq_true (by first | (with_reducible assumption) | assumption); first | exact h_ | (have e_ := (Kd.S_reads' HO_3.out).1; omega) | simpa using h_); obtain ⟨ve12_1, rfl, ge12_1⟩ := k62_openM hM12; have HP12 := Kd.S_seg hH12 (of_decide_eq_true (by first | (with_reducible assumption) | assumption)) (by have h_ : (x4_1 : Int) < ((x3_1.length : Int) : Int) := of_decide_eq_true (by first | (with_reducible assumption) | assumption); first | exact h_ | (have e_ := (Kd.S_reads' HO_3.out).1; omega) | simpa using h_) (seg := [.int .i64 t143, v145]) (j := 0) (show 2 ≤ 2 from by decide) (x' := (⟨t143, t144⟩ : S62)) (k62_mkM _ _ _ (⟨t143, t144⟩ : S62) (Kd.R_mono (Kd.R_tight rfl (Kd.R_mono (ok' := fun k_ => ((fun _ => True)) k_ ∧ k_ ≠ go10) (Kd.R_apart' (HO146.out) (Kd.S_typed HO_3.out) (by decide)) (fun k_ hk => ⟨trivial, fun e_ => (hk.2) (by rw [e_]; rfl)⟩))) (fun _ h_ => Or.inr (h_)))) (fun _ hk => hk) (fun k_ hk_ => ((Kd.R_mono (ok' := fun k_ => ((fun _ => True)) k_ ∧ k_ ≠ go10) (Kd.R_apart' (HO146.out) (Kd.S_typed HO_3.out) (by decide)) (fun k_ hk => ⟨trivial, fun e_ => (hk.2) (by rw [e_]; rfl)⟩))).1 k_ hk_.symm); have hx12_0 := hcc12 0 _ rfl; (try simp only [show (k62).sz = 2 from rfl, Nat.mul_one, Nat.add_zero] at hx12_0); have hf12_0 := hfr12 0; (try simp only [show (k62).sz = 2 from rfl, Nat.mul_one, Nat.add_zero] at hf12_0); have hx12_1 := hcc12 1 _ rfl; (try simp only [show (k62).sz = 2 from rfl, Nat.mul_one, Nat.add_zero] at hx12_1); have hf12_1 := hfr12 1; (try simp only [show (k62).sz = 2 from rfl, Nat.mul_one, Nat.add_zero] at hf12_1); clear hcl12 hcc12 hfr12 hM12 hoki12 hH12) | ((with_reducible refine gate_store (t := 62) (p := 21) rfl ?_); refine store_event (t := 62) (p := 21) (v := ?vo_w13) (w1 := ((w11.setCell ⟨go10, (x4_1 : Int).toNat * 2, none⟩ (.int .i64 t143)).setCell ⟨go10, (x4_1 : Int).toNat * 2 + 1, none⟩ (v145))) ?hg ?ho ?hn ?hr ?_; (case ho => rfl); (case hg => rfl); (case hn => rfl); (case hr => (first | (obtain ⟨Aq0_, cq0_, eq0_⟩ := Kd.R_slice HO146.out; rw [eq0_]) | (obtain ⟨Aq0_, cq0_, eq0_⟩ := Kd.S_slice HO146.out; rw [eq0_])); first | (go_simp; done) | (go_simp; rfl)); intro w13 hw; have hg : w11.grownBy w13 (some go10) := (by rw [hw]; exact HP12.2); have hp_ : Kd.S k62 62 w13 w.heap.size (fun _ => True) (.slice (some ⟨go10, 0, none⟩) x3_1.length co10) y147 := (by rw [hw, Ny147.out]; exact HP12.1); clear HP12; have n0_ := Aside0.mk (hp_); have n1_ := Aside0.mk ((by rw [hw]; exact below_set (below_set (HB.out) GB10.out) GB10.out : Below w.heap.size w w13)); clear HO_3; clear HB; clear HO146; have HO_3 := n0_; have HB := n1_; clear n0_ n1_; clear hg hw hp_))
                go_roundg k1
                case measure => have := HK1.out; omega
                case rel => exact ⟨(y147), (wrap64 (x4_1 + 1)), (by first | rfl | (simp; done) | (simp [*]; done)), H', ⟨by have := HK1.out; omega⟩, ⟨Rgn.sq HO_3.out⟩, ⟨Rgn.bq HB.out⟩⟩
              · rw [if_neg c9] at H
                exact absurd H (by simp)
            · rw [if_neg c7] at H
              exact absurd H (by simp)
          · rw [if_neg c6] at H
            have c6b0 : decide (x4_1 < (l0.length : Int)) = false := decide_eq_false c6
            clear c6
            obtain rfl := Option.some.inj H
            go_wp2
            go_ret
            exact ⟨_, by first | rfl | (simp [errW_none, errW_some] <;> rfl) | (simp [*, errW_none, errW_some] <;> rfl), Rgn.sq HO_3.out, Rgn.bq HB.out⟩
    · rw [if_neg c3] at H
      exact absurd H (by simp)
  · rw [if_neg c2] at H
    exact absurd H (by simp)

/-! ### laws_toDisk: function 27 -/
def laws_toDisk.f (k : Nat) (l0_0 : List Int) (l0_1 : List (S112)) : Option (List Int × (List (S62))) := (laws_toByteS.f k l0_0).bind fun t151 => ((laws_toWriteS.f k l0_1).bind fun t154 => (some (t151, t154)))
theorem laws_toDisk.mono : ∀ a0 a1 k, LeO (laws_toDisk.f k a0 a1) (laws_toDisk.f (k + 1) a0 a1) := by
  intro a0 a1 k
  unfold laws_toDisk.f
  repeat' first
      | (with_reducible exact laws_toByteS.mono _ _)
      | (with_reducible exact laws_toWriteS.mono _ _)
      | (with_reducible exact LeO.refl _)
      | (with_reducible exact LeO.none _)
      | (with_reducible refine LeO.ite ?_ ?_)
      | (with_reducible refine LeO.bind ?_ (fun _ => ?_))
      | exact laws_toByteS.mono _ _
      | exact laws_toWriteS.mono _ _
      | exact LeO.none _
      | refine LeO.ite ?_ ?_
      | refine LeO.bind ?_ (fun _ => ?_)
set_option maxHeartbeats 8000000 in
set_option maxRecDepth 100000 in
theorem laws_toDisk.calls (k : Nat) (A0_0 : Option Addr) (c0_0 : Nat) (l0_0 : List Int) (A0_1 : Option Addr) (c0_1 : Nat) (l0_1 : List (S112)) (r1 : List Int) (r2 : List (S62)) (w : World) (hr0_0 : Kd.C (Kd.int .u8) w A0_0 l0_0.length l0_0) (hc0_0 : l0_0.length ≤ c0_0) (hr0_1 : Kd.C k112 w A0_1 l0_1.length l0_1) (hc0_1 : l0_1.length ≤ c0_1) (h : laws_toDisk.f k l0_0 l0_1 = some (r1, r2)) :
    Calls Try.prog 27 #[.agg #[.slice A0_0 l0_0.length c0_0, .slice A0_1 l0_1.length c0_1]] w fun e w' => ∃ v0_ v1_ : Value, e = .returned (.agg #[v0_, v1_]) ∧ Kd.R (Kd.int .u8) 5 w' w.heap.size (fun _ => True) v0_ r1 ∧ Kd.S k62 62 w' w.heap.size (fun k_ => some k_ ≠ (v0_ : Value).ownBlock) v1_ r2 ∧ Below w.heap.size w w' := by
  have hu36 := Try.underlying36
  have hu29 := Try.underlying29
  have HR0_0 := Aside0.mk hr0_0
  have HC0_0 := Aside0.mk hc0_0
  clear hr0_0 hc0_0
  have HR0_1 := Aside0.mk hr0_1
  have HC0_1 := Aside0.mk hc0_1
  clear hr0_1 hc0_1
  have HB := Aside0.mk (Below.refl w.heap.size w)
  have H : ((laws_toByteS.f k l0_0).bind fun t151 => ((laws_toWriteS.f k l0_1).bind fun t154 => (some (t151, t154)))) = some (r1, r2) := h
  clear h
  replace H := Option.bind_eq_some_iff.mp H
  obtain ⟨t151, A20, H⟩ := H
  replace H : ((laws_toWriteS.f k l0_1).bind fun t154 => (some (t151, t154))) = some (r1, r2) := H
  have A2 := Aside0.mk A20
  clear A20
  replace H := Option.bind_eq_some_iff.mp H
  obtain ⟨t154, A30, H⟩ := H
  replace H : (some (t151, t154)) = some (r1, r2) := H
  have A3 := Aside0.mk A30
  clear A30
  simp only [Option.some.injEq, Prod.mk.injEq] at H
  obtain ⟨rfl, rfl⟩ := H
  go_enter Try.func27, Try.ntmps27
  go_wp2_with (first | ((with_reducible refine gate_dst (N := 1) rfl ?_); refine box_event ?hg (N := 1) ?hd (cs := #[.slice A0_0 l0_0.length c0_0, .slice A0_1 l0_1.length c0_1]) (t := 36) ?hr ?_; (case hd => rfl); (case hg => rfl); (case hr => first | (go_simp; done) | (go_simp; rfl)); intro gb148 hg w4 hbox hb; have n0_ := Aside0.mk (below_step (Rgn.bq HB.out) hb); have n1_ := Aside0.mk (hbox); have n2_ := Aside0.mk ((by rw [hg]; exact (below_size (Rgn.bq HB.out)) : w.heap.size ≤ gb148)); have n3_ := Aside0.mk ((by rw [hg]; exact (below_size (Rgn.bq HB.out)) : w.heap.size ≤ gb148)); clear HB; have HB := n0_; have BK148 := n1_; have GW148 := n2_; have GE148 := n3_; clear n0_ n1_ n2_ n3_; clear hb hbox hg) | ((with_reducible refine gate_dst (N := 2) rfl ?_); refine box_event ?hg (N := 2) ?hd (cs := #[.slice none 0 0, .slice none 0 0]) (t := 29) ?hr ?_; (case hd => rfl); (case hg => rfl); (case hr => first | (go_simp; done) | (go_simp; rfl)); intro gb149 hg w5 hbox hb; have n0_ := Aside0.mk (Rgn.bb BK148.out hb); have n1_ := Aside0.mk (below_step (Rgn.bq HB.out) hb); have n2_ := Aside0.mk (hbox); have n3_ := Aside0.mk ((by rw [hg]; exact (below_size (Rgn.bq HB.out)) : w.heap.size ≤ gb149)); have n4_ := Aside0.mk ((by rw [hg]; exact (below_size (Rgn.bq HB.out)) : w.heap.size ≤ gb149)); have n5_ := Aside0.mk ((by rw [hg]; exact Nat.ne_of_lt (blk_lt (g := gb148) (o := .cells #[.slice A0_0 l0_0.length c0_0, .slice A0_1 l0_1.length c0_1] 36 (0, 0)) (Rgn.kb BK148.out)) : gb148 ≠ gb149)); have n6_ := Aside0.mk ((by rw [hg]; exact Nat.ne_of_gt (blk_lt (g := gb148) (o := .cells #[.slice A0_0 l0_0.length c0_0, .slice A0_1 l0_1.length c0_1] 36 (0, 0)) (Rgn.kb BK148.out)) : gb149 ≠ gb148)); clear BK148; clear HB; have BK148 := n0_; have HB := n1_; have BK149 := n2_; have GW149 := n3_; have GE149 := n4_; have NB148_149 := n5_; have NB149_148 := n6_; clear n0_ n1_ n2_ n3_ n4_ n5_ n6_; clear hb hbox hg) | ((with_reducible refine gate_dst (N := 3) rfl ?_); refine box_event ?hg (N := 3) ?hd (cs := #[.slice none 0 0, .slice none 0 0]) (t := 29) ?hr ?_; (case hd => rfl); (case hg => rfl); (case hr => first | (go_simp; done) | (go_simp; rfl)); intro gb150 hg w6 hbox hb; have n0_ := Aside0.mk (Rgn.bb BK148.out hb); have n1_ := Aside0.mk (Rgn.bb BK149.out hb); have n2_ := Aside0.mk (below_step (Rgn.bq HB.out) hb); have n3_ := Aside0.mk (hbox); have n4_ := Aside0.mk ((by rw [hg]; exact (below_size (Rgn.bq HB.out)) : w.heap.size ≤ gb150)); have n5_ := Aside0.mk ((by rw [hg]; exact (below_size (Rgn.bq HB.out)) : w.heap.size ≤ gb150)); have n6_ := Aside0.mk ((by rw [hg]; exact Nat.ne_of_lt (blk_lt (g := gb148) (o := .cells #[.slice A0_0 l0_0.length c0_0, .slice A0_1 l0_1.length c0_1] 36 (0, 0)) (Rgn.kb BK148.out)) : gb148 ≠ gb150)); have n7_ := Aside0.mk ((by rw [hg]; exact Nat.ne_of_gt (blk_lt (g := gb148) (o := .cells #[.slice A0_0 l0_0.length c0_0, .slice A0_1 l0_1.length c0_1] 36 (0, 0)) (Rgn.kb BK148.out)) : gb150 ≠ gb148)); have n8_ := Aside0.mk ((by rw [hg]; exact Nat.ne_of_lt (blk_lt (g := gb149) (o := .cells #[.slice none 0 0, .slice none 0 0] 29 (0, 0)) (Rgn.kb BK149.out)) : gb149 ≠ gb150)); have n9_ := Aside0.mk ((by rw [hg]; exact Nat.ne_of_gt (blk_lt (g := gb149) (o := .cells #[.slice none 0 0, .slice none 0 0] 29 (0, 0)) (Rgn.kb BK149.out)) : gb150 ≠ gb149)); clear BK148; clear BK149; clear HB; have BK148 := n0_; have BK149 := n1_; have HB := n2_; have BK150 := n3_; have GW150 := n4_; have GE150 := n5_; have NB148_150 := n6_; have NB150_148 := n7_; have NB149_150 := n8_; have NB150_149 := n9_; clear n0_ n1_ n2_ n3_ n4_ n5_ n6_ n7_ n8_ n9_; clear hb hbox hg; have hnb7 := NB148_149.out; have hnc7 := NB149_148.out; have hnb8 := NB148_150.out; have hnc8 := NB150_148.out; have hcz9_0 : w6.cell? ⟨gb148, 0, none⟩ = some (.slice A0_0 l0_0.length c0_0) := (blk_cell BK148.out 0).trans rfl; have hcz9_1 : w6.cell? ⟨gb148, 1, none⟩ = some (.slice A0_1 l0_1.length c0_1) := (blk_cell BK148.out 1).trans rfl; have hfz9_0 := blk_frozen BK148.out 0; have hfz9_1 := blk_frozen BK148.out 1) | ((with_reducible refine gate_callee (f := 36) rfl ?_); refine Rgn.gl (some 6) Try.func36 #[.slice A0_0 l0_0.length c0_0] ?_; (with_reducible refine (laws_toByteS.calls k _ _ l0_0 t151 _ ?side1 ?side2 A2.out).mono ?_); (case side1 => exact Rgn.cq (Kd.C_below HR0_0.out HB.out)); (case side2 => exact HC0_0.out); rintro e w10 ⟨v152, rfl, ho0, hb⟩; refine ⟨_, rfl, ?_⟩; have n0_ := Aside0.mk (Kd.R_lower ho0 (below_size (Rgn.bq HB.out))); have n1_ := Aside0.mk (Rgn.bb BK148.out hb); have n2_ := Aside0.mk (Rgn.bb BK149.out hb); have n3_ := Aside0.mk (Rgn.bb BK150.out hb); have n4_ := Aside0.mk (below_step (Rgn.bq HB.out) hb); clear BK148; clear BK149; clear BK150; clear HB; have HO153 := n0_; have BK148 := n1_; have BK149 := n2_; have BK150 := n3_; have HB := n4_; clear n0_ n1_ n2_ n3_ n4_; (try clear hb); (try clear hb2); (try clear hk); (try clear hi); (try clear ho0); obtain ⟨Ao11, co11, eo11⟩ := Kd.R_slice HO153.out; subst eo11; have hnb12 := NB150_149.out; have hnc12 := NB149_150.out; have hcz13_0 : w10.cell? ⟨gb150, 0, none⟩ = some (.slice none 0 0) := (blk_cell BK150.out 0).trans rfl; have hcz13_1 : w10.cell? ⟨gb150, 1, none⟩ = some (.slice none 0 0) := (blk_cell BK150.out 1).trans rfl; have hfz13_0 := blk_frozen BK150.out 0; have hfz13_1 := blk_frozen BK150.out 1; have hcz14_0 : w10.cell? ⟨gb148, 0, none⟩ = some (.slice A0_0 l0_0.length c0_0) := (blk_cell BK148.out 0).trans rfl; have hcz14_1 : w10.cell? ⟨gb148, 1, none⟩ = some (.slice A0_1 l0_1.length c0_1) := (blk_cell BK148.out 1).trans rfl; have hfz14_0 := blk_frozen BK148.out 0; have hfz14_1 := blk_frozen BK148.out 1) | ((with_reducible refine gate_callee (f := 71) rfl ?_); refine Rgn.gl (some 10) Try.func71 #[.slice A0_1 l0_1.length c0_1] ?_; (with_reducible refine (laws_toWriteS.calls k _ _ l0_1 t154 _ ?side1 ?side2 A3.out).mono ?_); (case side1 => exact Kd.C_below HR0_1.out (Rgn.bq HB.out)); (case side2 => exact HC0_1.out); rintro e w15 ⟨v155, rfl, ho0, hb⟩; refine ⟨_, rfl, ?_⟩; have n0_ := Aside0.mk (Kd.R_below (by (with_reducible repeat (first | apply Kd.R_alloc | apply Kd.R_drewN | apply Kd.R_drew)); exact (Kd.R_mono (Kd.R_far (p := ⟨gb150, 0, none⟩) (Kd.R_types HO153.out BK150.out (by decide)) (fun _ hk => hk.2) (.slice Ao11 t151.length co11)) (fun _ h_ => h_.1))) hb); have n1_ := Aside0.mk (Kd.S_lower (Kd.S_new' ho0 (Kd.R_lt (by (with_reducible repeat (first | apply Kd.R_alloc | apply Kd.R_drewN | apply Kd.R_drew)); exact (Kd.R_mono (Kd.R_far (p := ⟨gb150, 0, none⟩) (Kd.R_types HO153.out BK150.out (by decide)) (fun _ hk => hk.2) (.slice Ao11 t151.length co11)) (fun _ h_ => h_.1))))) (below_size (Rgn.bq HB.out))); have n2_ := Aside0.mk (blk_below (g := gb148) (o := .cells #[.slice A0_0 l0_0.length c0_0, .slice A0_1 l0_1.length c0_1] 36 (0, 0)) (by (with_reducible repeat (first | refine blk_drewN ?_ _ | refine blk_drew ?_ | refine blk_alloc ?_ _)); refine blk_far ?_ NB148_150.out _; (with_reducible repeat (first | refine blk_drewN ?_ _ | refine blk_drew ?_ | refine blk_alloc ?_ _)); exact BK148.out) hb); have n3_ := Aside0.mk (blk_below (g := gb149) (o := .cells #[.slice none 0 0, .slice none 0 0] 29 (0, 0)) (by (with_reducible repeat (first | refine blk_drewN ?_ _ | refine blk_drew ?_ | refine blk_alloc ?_ _)); refine blk_far ?_ NB149_150.out _; (with_reducible repeat (first | refine blk_drewN ?_ _ | refine blk_drew ?_ | refine blk_alloc ?_ _)); exact BK149.out) hb); have n4_ := Aside0.mk (blk_below (g := gb150) (o := .cells #[.slice Ao11 t151.length co11, .slice none 0 0] 29 (0, 0)) (by (with_reducible repeat (first | refine blk_drewN ?_ _ | refine blk_drew ?_ | refine blk_alloc ?_ _)); refine blk_put (cs := #[.slice none 0 0, .slice none 0 0]) ?_ 0 _ rfl; (with_reducible repeat (first | refine blk_drewN ?_ _ | refine blk_drew ?_ | refine blk_alloc ?_ _)); exact BK150.out) hb); have n5_ := Aside0.mk (below_step (Rgn.bq HB.out) hb); clear HO153; clear BK148; clear BK149; clear BK150; clear HB; have HO153 := n0_; have HO156 := n1_; have BK148 := n2_; have BK149 := n3_; have BK150 := n4_; have HB := n5_; clear n0_ n1_ n2_ n3_ n4_ n5_; (try clear hb); (try clear hb2); (try clear hk); (try clear hi); (try clear ho0); obtain ⟨Ao16, co16, eo16⟩ := Kd.S_slice HO156.out; subst eo16; have hcz17_0 : w15.cell? ⟨gb150, 0, none⟩ = some (.slice Ao11 t151.length co11) := (blk_cell BK150.out 0).trans rfl; have hcz17_1 : w15.cell? ⟨gb150, 1, none⟩ = some (.slice none 0 0) := (blk_cell BK150.out 1).trans rfl; have hfz17_0 := blk_frozen BK150.out 0; have hfz17_1 := blk_frozen BK150.out 1; have hcz18_0 : w15.cell? ⟨gb149, 0, none⟩ = some (.slice none 0 0) := (blk_cell BK149.out 0).trans rfl; have hcz18_1 : w15.cell? ⟨gb149, 1, none⟩ = some (.slice none 0 0) := (blk_cell BK149.out 1).trans rfl; have hfz18_0 := blk_frozen BK149.out 0; have hfz18_1 := blk_frozen BK149.out 1))
  refine bodyPost_ret (results_cell_row rfl _ _ gb149 29 #[.slice Ao11 t151.length co11, .slice Ao16 t154.length co16] (0, 0) _ rfl (by (with_reducible repeat (first | refine blk_drewN ?_ _ | refine blk_drew ?_ | refine blk_alloc ?_ _)); refine blk_put (cs := #[.slice Ao11 t151.length co11, .slice none 0 0]) ?_ 1 _ rfl; (with_reducible repeat (first | refine blk_drewN ?_ _ | refine blk_drew ?_ | refine blk_alloc ?_ _)); refine blk_put (cs := #[.slice none 0 0, .slice none 0 0]) ?_ 0 _ rfl; (with_reducible repeat (first | refine blk_drewN ?_ _ | refine blk_drew ?_ | refine blk_alloc ?_ _)); refine blk_far ?_ NB149_150.out _; (with_reducible repeat (first | refine blk_drewN ?_ _ | refine blk_drew ?_ | refine blk_alloc ?_ _)); exact BK149.out) Try.underlying29 rfl (by kernel_rfl)) rfl ?_
  exact ⟨_, _, by first | rfl | (simp [errW_none, errW_some] <;> rfl) | (simp [*, errW_none, errW_some] <;> rfl), by (with_reducible repeat (first | apply Kd.R_alloc | apply Kd.R_drewN | apply Kd.R_drew)); exact Kd.R_mono (Kd.R_far (p := ⟨gb149, 1, none⟩) (Kd.R_far (p := ⟨gb149, 0, none⟩) (Kd.R_far (p := ⟨gb150, 1, none⟩) (Kd.R_types (Kd.R_types HO153.out BK150.out (by decide)) BK149.out (by decide)) (fun _ hk => hk.1.2) (.slice Ao16 t154.length co16)) (fun _ hk => hk.2) (.slice Ao11 t151.length co11)) (fun _ hk => hk.2) (.slice Ao16 t154.length co16)) (fun _ hk => trivial), by (with_reducible repeat (first | apply Kd.S_alloc | apply Kd.S_drewN | apply Kd.S_drew)); exact Kd.S_mono (Kd.S_far (p := ⟨gb149, 1, none⟩) (Kd.S_far (p := ⟨gb149, 0, none⟩) (Kd.S_far (p := ⟨gb150, 1, none⟩) (Kd.S_types (Kd.S_types HO156.out BK150.out (by decide)) BK149.out (by decide)) (fun _ hk => hk.1.2) (.slice Ao16 t154.length co16)) (fun _ hk => hk.2) (.slice Ao11 t151.length co11)) (fun _ hk => hk.2) (.slice Ao16 t154.length co16)) (fun _ hk => hk.1.1.2), Rgn.bq HB.out⟩

/-! ### impl_ValidDisk: function 28 -/
mutual
def impl_ValidDisk.j0 : Nat → Int → Bool → List Int → List (S62) → Option (Bool)
  | 0, _, _, _, _ => none
  | k + 1, x3, x25, x158000, x158001 => if x25 = true then (some false) else (impl_ValidDisk.l0 k x3 x158001 (x158001.length : Int) 0)
def impl_ValidDisk.l0 : Nat → Int → List (S62) → Int → Int → Option (Bool)
  | 0, _, _, _, _ => none
  | k + 1, x3, x27, x28, x29 => if x29 < x28 then (if 0 ≤ x29 then (if x29 < (x27.length : Int) then (if ((rd_T62 x27 x29).f0) < 0 then (some false) else (if ((rd_T62 x27 x29).f0) ≥ (wrap64 (Int.tdiv x3 64)) then (some false) else (if (((rd_T62 x27 x29).f1).length : Int) = 64 then (impl_ValidDisk.l0 k x3 x27 x28 (wrap64 (x29 + 1))) else (some false)))) else (none)) else (none)) else (some true)
end
def impl_ValidDisk.f (k : Nat) (l0_0 : List Int) (l0_1 : List (S62)) : Option (Bool) := if ((l0_0.length : Int) % 64) = 0 then (if (l0_0.length : Int) = 0 then (impl_ValidDisk.j0 k (l0_0.length : Int) true l0_0 l0_1) else (if (l0_0.length : Int) > 131072 then (impl_ValidDisk.j0 k (l0_0.length : Int) true l0_0 l0_1) else (impl_ValidDisk.j0 k (l0_0.length : Int) (decide ((l0_1.length : Int) > 600)) l0_0 l0_1))) else (impl_ValidDisk.j0 k (l0_0.length : Int) true l0_0 l0_1)
theorem impl_ValidDisk.mono_l : ∀ k, (∀ y0 y1 y2 y3, LeO (impl_ValidDisk.j0 k y0 y1 y2 y3) (impl_ValidDisk.j0 (k + 1) y0 y1 y2 y3)) ∧ (∀ y0 y1 y2 y3, LeO (impl_ValidDisk.l0 k y0 y1 y2 y3) (impl_ValidDisk.l0 (k + 1) y0 y1 y2 y3))
  | 0 => ⟨fun _ _ _ _ r h => by simp [impl_ValidDisk.j0] at h, fun _ _ _ _ r h => by simp [impl_ValidDisk.l0] at h⟩
  | k + 1 => by
    obtain ⟨ih0, ih1⟩ := impl_ValidDisk.mono_l k
    refine ⟨?_, ?_⟩
    · intro y0 y1 y2 y3
      unfold impl_ValidDisk.j0
      repeat' first
      | (with_reducible exact ih0 _ _ _ _)
      | (with_reducible exact ih1 _ _ _ _)
      | (with_reducible exact LeO.refl _)
      | (with_reducible exact LeO.none _)
      | (with_reducible refine LeO.ite ?_ ?_)
      | (with_reducible refine LeO.bind ?_ (fun _ => ?_))
      | exact ih0 _ _ _ _
      | exact ih1 _ _ _ _
      | exact LeO.none _
      | refine LeO.ite ?_ ?_
      | refine LeO.bind ?_ (fun _ => ?_)
    · intro y0 y1 y2 y3
      unfold impl_ValidDisk.l0
      repeat' first
      | (with_reducible exact ih0 _ _ _ _)
      | (with_reducible exact ih1 _ _ _ _)
      | (with_reducible exact LeO.refl _)
      | (with_reducible exact LeO.none _)
      | (with_reducible refine LeO.ite ?_ ?_)
      | (with_reducible refine LeO.bind ?_ (fun _ => ?_))
      | exact ih0 _ _ _ _
      | exact ih1 _ _ _ _
      | exact LeO.none _
      | refine LeO.ite ?_ ?_
      | refine LeO.bind ?_ (fun _ => ?_)
theorem impl_ValidDisk.mono : ∀ a0 a1 k, LeO (impl_ValidDisk.f k a0 a1) (impl_ValidDisk.f (k + 1) a0 a1) := by
  intro a0 a1 k
  obtain ⟨ih0, ih1⟩ := impl_ValidDisk.mono_l k
  unfold impl_ValidDisk.f
  repeat' first
      | (with_reducible exact ih0 _ _ _ _)
      | (with_reducible exact ih1 _ _ _ _)
      | (with_reducible exact LeO.refl _)
      | (with_reducible exact LeO.none _)
      | (with_reducible refine LeO.ite ?_ ?_)
      | (with_reducible refine LeO.bind ?_ (fun _ => ?_))
      | exact ih0 _ _ _ _
      | exact ih1 _ _ _ _
      | exact LeO.none _
      | refine LeO.ite ?_ ?_
      | refine LeO.bind ?_ (fun _ => ?_)
set_option maxHeartbeats 8000000 in
set_option maxRecDepth 100000 in
theorem impl_ValidDisk.calls (k : Nat) (A0_0 : Option Addr) (c0_0 : Nat) (l0_0 : List Int) (A0_1 : Option Addr) (c0_1 : Nat) (l0_1 : List (S62)) (r : Bool) (w : World) (hr0_0 : Kd.C (Kd.int .u8) w A0_0 l0_0.length l0_0) (hc0_0 : l0_0.length ≤ c0_0) (hr0_1 : Kd.C k62 w A0_1 l0_1.length l0_1) (hc0_1 : l0_1.length ≤ c0_1) (h : impl_ValidDisk.f k l0_0 l0_1 = some r) :
    Calls Try.prog 28 #[.agg #[.slice A0_0 l0_0.length c0_0, .slice A0_1 l0_1.length c0_1]] w fun e w' => e = .returned (.bool r) ∧ Below w.heap.size w w' := by
  have hu29 := Try.underlying29
  have hu62 := Try.underlying62
  have HR0_0 := Aside0.mk hr0_0
  have HC0_0 := Aside0.mk hc0_0
  clear hr0_0 hc0_0
  have HR0_1 := Aside0.mk hr0_1
  have HC0_1 := Aside0.mk hc0_1
  clear hr0_1 hc0_1
  have HB := Aside0.mk (Below.refl w.heap.size w)
  have H : (if ((l0_0.length : Int) % 64) = 0 then (if (l0_0.length : Int) = 0 then (impl_ValidDisk.j0 k (l0_0.length : Int) true l0_0 l0_1) else (if (l0_0.length : Int) > 131072 then (impl_ValidDisk.j0 k (l0_0.length : Int) true l0_0 l0_1) else (impl_ValidDisk.j0 k (l0_0.length : Int) (decide ((l0_1.length : Int) > 600)) l0_0 l0_1))) else (impl_ValidDisk.j0 k (l0_0.length : Int) true l0_0 l0_1)) = some r := h
  clear h
  have HC2 := Aside0.mk H
  clear H
  go_enter Try.func28, Try.ntmps28
  go_upto_region 2 with (first | ((with_reducible refine gate_dst (N := 1) rfl ?_); (try (refine gate_guard (by rfl) ?_; dsimp only)); refine box_event ?hg (N := 1) ?hd (cs := #[.slice A0_0 l0_0.length c0_0, .slice A0_1 l0_1.length c0_1]) (t := 29) ?hr ?_; (case hd => rfl); (case hg => rfl); (case hr => first | (go_simp; done) | (go_simp; rfl)); intro gb157 hg w3 hbox hb; have n0_ := Aside0.mk (below_step (Rgn.bq HB.out) hb); have n1_ := Aside0.mk (hbox); have n2_ := Aside0.mk ((by rw [hg]; exact (below_size (Rgn.bq HB.out)) : w.heap.size ≤ gb157)); have n3_ := Aside0.mk ((by rw [hg]; exact (below_size (Rgn.bq HB.out)) : w.heap.size ≤ gb157)); clear HB; have HB := n0_; have BK157 := n1_; have GW157 := n2_; have GE157 := n3_; clear n0_ n1_ n2_ n3_; clear hb hbox hg; have hcz4_0 : w3.cell? ⟨gb157, 0, none⟩ = some (.slice A0_0 l0_0.length c0_0) := (blk_cell BK157.out 0).trans rfl; have hcz4_1 : w3.cell? ⟨gb157, 1, none⟩ = some (.slice A0_1 l0_1.length c0_1) := (blk_cell BK157.out 1).trans rfl; have hfz4_0 := blk_frozen BK157.out 0; have hfz4_1 := blk_frozen BK157.out 1))
  (try simp only [Act.put, List.setIfInBounds_toArray, List.set_cons_zero, List.set_cons_succ])
  go_cut [25] (fun v25 wc => ∃ (kq : Nat) (x25_1 : Bool), v25 = .bool x25_1 ∧ Aside0 (impl_ValidDisk.j0 kq (l0_0.length : Int) x25_1 l0_0 l0_1 = some r) ∧ Aside0 (kq ≤ k) ∧ Aside0 (wc.heap[gb157]? = some (.cells #[(.slice A0_0 l0_0.length c0_0), (.slice A0_1 l0_1.length c0_1)] 29 (0, 0))) ∧ Aside0 (Below w.heap.size w wc))
  case first =>
    have H := HC2.out
    clear HC2
    by_cases c5 : ((l0_0.length : Int) % 64) = 0
    · rw [if_pos c5] at H
      have c5b0 : (((l0_0.length : Int) % 64) == 0) = true := beq_iff_eq.mpr c5
      have c5b1 : (((l0_0.length : Int) % 64) != 0) = false := bne_eq_false_iff_eq.mpr c5
      clear c5
      (first | rw [c5b0] | (simp only [i64_w, i32_w]; rw [c5b0]) | skip)
      by_cases c6 : (l0_0.length : Int) = 0
      · rw [if_pos c6] at H
        have c6b0 : ((l0_0.length : Int) == 0) = true := beq_iff_eq.mpr c6
        have c6b1 : ((l0_0.length : Int) != 0) = false := bne_eq_false_iff_eq.mpr c6
        clear c6
        have H' := Aside0.mk H
        clear H
        go_wp2
        go_meet
        case rel => exact ⟨_, (true), (by first | rfl | (simp; done) | (simp [*]; done)), H', ⟨by first | omega | exact Nat.le_refl _⟩, ⟨Rgn.kb BK157.out⟩, ⟨Rgn.bq HB.out⟩⟩
      · rw [if_neg c6] at H
        have c6b0 : ((l0_0.length : Int) == 0) = false := beq_eq_false_iff_ne.mpr c6
        have c6b1 : ((l0_0.length : Int) != 0) = true := bne_iff_ne.mpr c6
        have c6b2 : ¬ (l0_0 = []) := fun h_ => c6 (by rw [h_]; rfl)
        by_cases c7 : (l0_0.length : Int) > 131072
        · rw [if_pos c7] at H
          have c7b0 : decide (131072 < (l0_0.length : Int)) = true := decide_eq_true c7
          have c7b1 : decide (131072 < l0_0.length) = true := decide_eq_true (by omega)
          clear c7
          have H' := Aside0.mk H
          clear H
          go_wp2
          go_meet
          case rel => exact ⟨_, (true), (by first | rfl | (simp; done) | (simp [*]; done)), H', ⟨by first | omega | exact Nat.le_refl _⟩, ⟨Rgn.kb BK157.out⟩, ⟨Rgn.bq HB.out⟩⟩
        · rw [if_neg c7] at H
          have c7b0 : decide (131072 < (l0_0.length : Int)) = false := decide_eq_false c7
          have c7b1 : decide (131072 < l0_0.length) = false := decide_eq_false (by omega)
          clear c7
          have H' := Aside0.mk H
          clear H
          have hcz8_0 : w3.cell? ⟨gb157, 0, none⟩ = some (.slice A0_0 l0_0.length c0_0) := (blk_cell BK157.out 0).trans rfl
          have hcz8_1 : w3.cell? ⟨gb157, 1, none⟩ = some (.slice A0_1 l0_1.length c0_1) := (blk_cell BK157.out 1).trans rfl
          have hfz8_0 := blk_frozen BK157.out 0
          have hfz8_1 := blk_frozen BK157.out 1
          go_wp2
          go_meet
          case rel => exact ⟨_, (decide ((l0_1.length : Int) > 600)), (by first | rfl | (simp; done) | (simp [*]; done)), H', ⟨by first | omega | exact Nat.le_refl _⟩, ⟨Rgn.kb BK157.out⟩, ⟨Rgn.bq HB.out⟩⟩
    · rw [if_neg c5] at H
      have c5b0 : (((l0_0.length : Int) % 64) == 0) = false := beq_eq_false_iff_ne.mpr c5
      have c5b1 : (((l0_0.length : Int) % 64) != 0) = true := bne_iff_ne.mpr c5
      (first | rw [c5b0] | (simp only [i64_w, i32_w]; rw [c5b0]) | skip)
      have H' := Aside0.mk H
      clear H
      go_wp2
      go_meet
      case rel => exact ⟨_, (true), (by first | rfl | (simp; done) | (simp [*]; done)), H', ⟨by first | omega | exact Nat.le_refl _⟩, ⟨Rgn.kb BK157.out⟩, ⟨Rgn.bq HB.out⟩⟩
  case rest =>
    clear HC2
    try clear c2
    try clear p2
    try clear c5
    try clear c5b0
    try clear c5b1
    try clear c6
    try clear c6b0
    try clear c6b1
    try clear c6b2
    try clear c7
    try clear c7b0
    try clear c7b1
    try clear hcz4_0
    try clear hcz4_1
    try clear hcz8_0
    try clear hcz8_1
    try clear hfz4_0
    try clear hfz4_1
    try clear hfz8_0
    try clear hfz8_1
    obtain ⟨kq, x25_1, rfl, HA, HJ1, BK157, HB⟩ := hcut
    cases kq with
    | zero => exact absurd HA.out (by simp [impl_ValidDisk.j0])
    | succ kj1 =>
      have H := HA.out
      clear HA
      simp only [impl_ValidDisk.j0] at H
      by_cases c9 : x25_1 = true
      · subst c9
        have H1 : (some false) = some r := by rw [if_pos rfl] at H; exact H
        clear H
        have H := H1
        clear H1
        obtain rfl := Option.some.inj H
        go_wp2
        go_ret
        exact ⟨by first | rfl | (simp [errW_none, errW_some] <;> rfl) | (simp [*, errW_none, errW_some] <;> rfl), Rgn.bq HB.out⟩
      · replace c9 := Bool.eq_false_iff.mpr c9
        subst c9
        have H1 : (impl_ValidDisk.l0 kj1 (l0_0.length : Int) l0_1 (l0_1.length : Int) 0) = some r := by rw [if_neg (show ¬ (false = true) by decide)] at H; exact H
        clear H
        have H := H1
        clear H1
        have H' := Aside0.mk H
        clear H
        have hcz10_0 : wc.cell? ⟨gb157, 0, none⟩ = some (.slice A0_0 l0_0.length c0_0) := (blk_cell BK157.out 0).trans rfl
        have hcz10_1 : wc.cell? ⟨gb157, 1, none⟩ = some (.slice A0_1 l0_1.length c0_1) := (blk_cell BK157.out 1).trans rfl
        have hfz10_0 := blk_frozen BK157.out 0
        have hfz10_1 := blk_frozen BK157.out 1
        go_wp2
        go_loopg [29] kj1 (fun kq v29 w' => ∃ (x29_2 : Int), v29 = .int .i64 x29_2 ∧ Aside0 (impl_ValidDisk.l0 kq (l0_0.length : Int) l0_1 (l0_1.length : Int) x29_2 = some r) ∧ Aside0 (kq ≤ kj1) ∧ Aside0 (w'.heap[gb157]? = some (.cells #[(.slice A0_0 l0_0.length c0_0), (.slice A0_1 l0_1.length c0_1)] 29 (0, 0))) ∧ Aside0 (Below w.heap.size w w'))
        case atStart => exact ⟨(0), (by first | rfl | (simp; done) | (simp [*]; done)), H', ⟨Nat.le_refl _⟩, ⟨Rgn.kb BK157.out⟩, ⟨Rgn.bq HB.out⟩⟩
        case round =>
          clear H'
          try clear c2
          try clear p2
          try clear c5
          try clear c5b0
          try clear c5b1
          try clear c6
          try clear c6b0
          try clear c6b1
          try clear c6b2
          try clear c7
          try clear c7b0
          try clear c7b1
          try clear c9
          try clear hcz10_0
          try clear hcz10_1
          try clear hcz4_0
          try clear hcz4_1
          try clear hcz8_0
          try clear hcz8_1
          try clear hfz10_0
          try clear hfz10_1
          try clear hfz4_0
          try clear hfz4_1
          try clear hfz8_0
          try clear hfz8_1
          try clear p2
          obtain ⟨x29_2, rfl, HA, HK2, BK157, HB⟩ := hrel
          cases gk with
          | zero => exact absurd HA.out (by simp [impl_ValidDisk.l0])
          | succ k2 =>
            have H := HA.out
            clear HA
            simp only [impl_ValidDisk.l0] at H
            by_cases c11 : x29_2 < (l0_1.length : Int)
            · rw [if_pos c11] at H
              have c11b0 : decide (x29_2 < (l0_1.length : Int)) = true := decide_eq_true c11
              clear c11
              by_cases c12 : 0 ≤ x29_2
              · rw [if_pos c12] at H
                have c12b0 : decide (0 ≤ x29_2) = true := decide_eq_true c12
                clear c12
                by_cases c13 : x29_2 < (l0_1.length : Int)
                · rw [if_pos c13] at H
                  have c13b0 : decide (x29_2 < (l0_1.length : Int)) = true := decide_eq_true c13
                  clear c13
                  by_cases c14 : ((rd_T62 l0_1 x29_2).f0) < 0
                  · rw [if_pos c14] at H
                    have c14b0 : decide (((rd_T62 l0_1 x29_2).f0) < 0) = true := decide_eq_true c14
                    clear c14
                    obtain rfl := Option.some.inj H
                    have p158 : 0 ≤ (x29_2 : Int) := of_decide_eq_true (by first | (with_reducible assumption) | assumption)
                    have q158 : x29_2 < (l0_1.length : Int) := of_decide_eq_true (by first | (with_reducible assumption) | assumption)
                    obtain ⟨ad158, A158_1, c158_1, e158, hx158_0, hx158_1, hl158_1, hi158_1⟩ := at_T62 HR0_1.out x29_2 p158 q158
                    cases e158
                    replace hx158_0 := (HB.out.cell (World.block_lt_of_cell? w _ hx158_0)).trans hx158_0
                    replace hx158_1 := (HB.out.cell (World.block_lt_of_cell? w _ hx158_1)).trans hx158_1
                    have HR158_1 := Aside0.mk hi158_1
                    have HC158_1 := Aside0.mk hl158_1
                    clear hi158_1 hl158_1
                    replace p158 := eq_true p158
                    replace q158 := eq_true q158
                    go_wp2_with (first | ((with_reducible refine gate_dst (N := 5) rfl ?_); (try (refine gate_guard (by rfl) ?_; dsimp only)); refine box_event ?hg (N := 5) ?hd (cs := #[.int .i64 0, .slice none 0 0]) (t := 62) ?hr ?_; (case hd => rfl); (case hg => rfl); (case hr => first | (go_simp; done) | (go_simp; rfl)); intro gb159 hg w15 hbox hb; have n0_ := Aside0.mk (Rgn.bb BK157.out hb); have n1_ := Aside0.mk (below_step (Rgn.bq HB.out) hb); have n2_ := Aside0.mk (hbox); have n3_ := Aside0.mk ((by rw [hg]; exact (below_size (Rgn.bq HB.out)) : w.heap.size ≤ gb159)); have n4_ := Aside0.mk ((by rw [hg]; exact (below_size (Rgn.bq HB.out)) : w.heap.size ≤ gb159)); have n5_ := Aside0.mk ((by rw [hg]; exact Nat.ne_of_lt (blk_lt (g := gb157) (o := .cells #[.slice A0_0 l0_0.length c0_0, .slice (some ad158) l0_1.length c0_1] 29 (0, 0)) (Rgn.kb BK157.out)) : gb157 ≠ gb159)); have n6_ := Aside0.mk ((by rw [hg]; exact Nat.ne_of_gt (blk_lt (g := gb157) (o := .cells #[.slice A0_0 l0_0.length c0_0, .slice (some ad158) l0_1.length c0_1] 29 (0, 0)) (Rgn.kb BK157.out)) : gb159 ≠ gb157)); clear BK157; clear HB; have BK157 := n0_; have HB := n1_; have BK159 := n2_; have GW159 := n3_; have GE159 := n4_; have NB157_159 := n5_; have NB159_157 := n6_; clear n0_ n1_ n2_ n3_ n4_ n5_ n6_; clear hb hbox hg; have hnb16 := NB159_157.out; have hnc16 := NB157_159.out; have hcz17_0 : w15.cell? ⟨gb159, 0, none⟩ = some (.int .i64 0) := (blk_cell BK159.out 0).trans rfl; have hcz17_1 : w15.cell? ⟨gb159, 1, none⟩ = some (.slice none 0 0) := (blk_cell BK159.out 1).trans rfl; have hfz17_0 := blk_frozen BK159.out 0; have hfz17_1 := blk_frozen BK159.out 1))
                    go_ret
                    exact ⟨by first | rfl | (simp [errW_none, errW_some] <;> rfl) | (simp [*, errW_none, errW_some] <;> rfl), Rgn.bq HB.out⟩
                  · rw [if_neg c14] at H
                    have c14b0 : decide (((rd_T62 l0_1 x29_2).f0) < 0) = false := decide_eq_false c14
                    clear c14
                    by_cases c18 : ((rd_T62 l0_1 x29_2).f0) ≥ (wrap64 (Int.tdiv (l0_0.length : Int) 64))
                    · rw [if_pos c18] at H
                      have c18b0 : decide ((wrap64 (Int.tdiv (l0_0.length : Int) 64)) ≤ ((rd_T62 l0_1 x29_2).f0)) = true := decide_eq_true c18
                      have c18b9 : decide ((wrap64 ((l0_0.length : Int) / 64)) ≤ ((rd_T62 l0_1 x29_2).f0)) = true := by rw [← Int.tdiv_eq_ediv_of_nonneg (Int.natCast_nonneg _)]; exact c18b0
                      clear c18
                      obtain rfl := Option.some.inj H
                      have p158 : 0 ≤ (x29_2 : Int) := of_decide_eq_true (by first | (with_reducible assumption) | assumption)
                      have q158 : x29_2 < (l0_1.length : Int) := of_decide_eq_true (by first | (with_reducible assumption) | assumption)
                      obtain ⟨ad158, A158_1, c158_1, e158, hx158_0, hx158_1, hl158_1, hi158_1⟩ := at_T62 HR0_1.out x29_2 p158 q158
                      cases e158
                      replace hx158_0 := (HB.out.cell (World.block_lt_of_cell? w _ hx158_0)).trans hx158_0
                      replace hx158_1 := (HB.out.cell (World.block_lt_of_cell? w _ hx158_1)).trans hx158_1
                      have HR158_1 := Aside0.mk hi158_1
                      have HC158_1 := Aside0.mk hl158_1
                      clear hi158_1 hl158_1
                      replace p158 := eq_true p158
                      replace q158 := eq_true q158
                      go_wp2_with (first | ((with_reducible refine gate_dst (N := 5) rfl ?_); (try (refine gate_guard (by rfl) ?_; dsimp only)); refine box_event ?hg (N := 5) ?hd (cs := #[.int .i64 0, .slice none 0 0]) (t := 62) ?hr ?_; (case hd => rfl); (case hg => rfl); (case hr => first | (go_simp; done) | (go_simp; rfl)); intro gb159 hg w19 hbox hb; have n0_ := Aside0.mk (Rgn.bb BK157.out hb); have n1_ := Aside0.mk (below_step (Rgn.bq HB.out) hb); have n2_ := Aside0.mk (hbox); have n3_ := Aside0.mk ((by rw [hg]; exact (below_size (Rgn.bq HB.out)) : w.heap.size ≤ gb159)); have n4_ := Aside0.mk ((by rw [hg]; exact (below_size (Rgn.bq HB.out)) : w.heap.size ≤ gb159)); have n5_ := Aside0.mk ((by rw [hg]; exact Nat.ne_of_lt (blk_lt (g := gb157) (o := .cells #[.slice A0_0 l0_0.length c0_0, .slice (some ad158) l0_1.length c0_1] 29 (0, 0)) (Rgn.kb BK157.out)) : gb157 ≠ gb159)); have n6_ := Aside0.mk ((by rw [hg]; exact Nat.ne_of_gt (blk_lt (g := gb157) (o := .cells #[.slice A0_0 l0_0.length c0_0, .slice (some ad158) l0_1.length c0_1] 29 (0, 0)) (Rgn.kb BK157.out)) : gb159 ≠ gb157)); clear BK157; clear HB; have BK157 := n0_; have HB := n1_; have BK159 := n2_; have GW159 := n3_; have GE159 := n4_; have NB157_159 := n5_; have NB159_157 := n6_; clear n0_ n1_ n2_ n3_ n4_ n5_ n6_; clear hb hbox hg; have hnb20 := NB159_157.out; have hnc20 := NB157_159.out; have hcz21_0 : w19.cell? ⟨gb159, 0, none⟩ = some (.int .i64 0) := (blk_cell BK159.out 0).trans rfl; have hcz21_1 : w19.cell? ⟨gb159, 1, none⟩ = some (.slice none 0 0) := (blk_cell BK159.out 1).trans rfl; have hfz21_0 := blk_frozen BK159.out 0; have hfz21_1 := blk_frozen BK159.out 1))
                      go_ret
                      exact ⟨by first | rfl | (simp [errW_none, errW_some] <;> rfl) | (simp [*, errW_none, errW_some] <;> rfl), Rgn.bq HB.out⟩
                    · rw [if_neg c18] at H
                      have c18b0 : decide ((wrap64 (Int.tdiv (l0_0.length : Int) 64)) ≤ ((rd_T62 l0_1 x29_2).f0)) = false := decide_eq_false c18
                      have c18b9 : decide ((wrap64 ((l0_0.length : Int) / 64)) ≤ ((rd_T62 l0_1 x29_2).f0)) = false := by rw [← Int.tdiv_eq_ediv_of_nonneg (Int.natCast_nonneg _)]; exact c18b0
                      clear c18
                      by_cases c22 : (((rd_T62 l0_1 x29_2).f1).length : Int) = 64
                      · rw [if_pos c22] at H
                        have c22b0 : ((((rd_T62 l0_1 x29_2).f1).length : Int) == 64) = true := beq_iff_eq.mpr c22
                        have c22b1 : ((((rd_T62 l0_1 x29_2).f1).length : Int) != 64) = false := bne_eq_false_iff_eq.mpr c22
                        clear c22
                        have H' := Aside0.mk H
                        clear H
                        have p158 : 0 ≤ (x29_2 : Int) := of_decide_eq_true (by first | (with_reducible assumption) | assumption)
                        have q158 : x29_2 < (l0_1.length : Int) := of_decide_eq_true (by first | (with_reducible assumption) | assumption)
                        obtain ⟨ad158, A158_1, c158_1, e158, hx158_0, hx158_1, hl158_1, hi158_1⟩ := at_T62 HR0_1.out x29_2 p158 q158
                        cases e158
                        replace hx158_0 := (HB.out.cell (World.block_lt_of_cell? w _ hx158_0)).trans hx158_0
                        replace hx158_1 := (HB.out.cell (World.block_lt_of_cell? w _ hx158_1)).trans hx158_1
                        have HR158_1 := Aside0.mk hi158_1
                        have HC158_1 := Aside0.mk hl158_1
                        clear hi158_1 hl158_1
                        replace p158 := eq_true p158
                        replace q158 := eq_true q158
                        go_wp2_with (first | ((with_reducible refine gate_dst (N := 5) rfl ?_); (try (refine gate_guard (by rfl) ?_; dsimp only)); refine box_event ?hg (N := 5) ?hd (cs := #[.int .i64 0, .slice none 0 0]) (t := 62) ?hr ?_; (case hd => rfl); (case hg => rfl); (case hr => first | (go_simp; done) | (go_simp; rfl)); intro gb159 hg w23 hbox hb; have n0_ := Aside0.mk (Rgn.bb BK157.out hb); have n1_ := Aside0.mk (below_step (Rgn.bq HB.out) hb); have n2_ := Aside0.mk (hbox); have n3_ := Aside0.mk ((by rw [hg]; exact (below_size (Rgn.bq HB.out)) : w.heap.size ≤ gb159)); have n4_ := Aside0.mk ((by rw [hg]; exact (below_size (Rgn.bq HB.out)) : w.heap.size ≤ gb159)); have n5_ := Aside0.mk ((by rw [hg]; exact Nat.ne_of_lt (blk_lt (g := gb157) (o := .cells #[.slice A0_0 l0_0.length c0_0, .slice (some ad158) l0_1.length c0_1] 29 (0, 0)) (Rgn.kb BK157.out)) : gb157 ≠ gb159)); have n6_ := Aside0.mk ((by rw [hg]; exact Nat.ne_of_gt (blk_lt (g := gb157) (o := .cells #[.slice A0_0 l0_0.length c0_0, .slice (some ad158) l0_1.length c0_1] 29 (0, 0)) (Rgn.kb BK157.out)) : gb159 ≠ gb157)); clear BK157; clear HB; have BK157 := n0_; have HB := n1_; have BK159 := n2_; have GW159 := n3_; have GE159 := n4_; have NB157_159 := n5_; have NB159_157 := n6_; clear n0_ n1_ n2_ n3_ n4_ n5_ n6_; clear hb hbox hg; have hnb24 := NB159_157.out; have hnc24 := NB157_159.out; have hcz25_0 : w23.cell? ⟨gb159, 0, none⟩ = some (.int .i64 0) := (blk_cell BK159.out 0).trans rfl; have hcz25_1 : w23.cell? ⟨gb159, 1, none⟩ = some (.slice none 0 0) := (blk_cell BK159.out 1).trans rfl; have hfz25_0 := blk_frozen BK159.out 0; have hfz25_1 := blk_frozen BK159.out 1))
                        go_roundg k2
                        case measure => have := HJ1.out; have := HK2.out; omega
                        case rel => exact ⟨(wrap64 (x29_2 + 1)), (by first | rfl | (simp; done) | (simp [*]; done)), H', ⟨by have := HJ1.out; have := HK2.out; omega⟩, ⟨by (with_reducible repeat (first | refine blk_drewN ?_ _ | refine blk_drew ?_ | refine blk_alloc ?_ _)); refine blk_far ?_ NB157_159.out _; (with_reducible repeat (first | refine blk_drewN ?_ _ | refine blk_drew ?_ | refine blk_alloc ?_ _)); refine blk_far ?_ NB157_159.out _; (with_reducible repeat (first | refine blk_drewN ?_ _ | refine blk_drew ?_ | refine blk_alloc ?_ _)); exact BK157.out⟩, ⟨Rgn.bq HB.out⟩⟩
                      · rw [if_neg c22] at H
                        have c22b0 : ((((rd_T62 l0_1 x29_2).f1).length : Int) == 64) = false := beq_eq_false_iff_ne.mpr c22
                        have c22b1 : ((((rd_T62 l0_1 x29_2).f1).length : Int) != 64) = true := bne_iff_ne.mpr c22
                        obtain rfl := Option.some.inj H
                        have p158 : 0 ≤ (x29_2 : Int) := of_decide_eq_true (by first | (with_reducible assumption) | assumption)
                        have q158 : x29_2 < (l0_1.length : Int) := of_decide_eq_true (by first | (with_reducible assumption) | assumption)
                        obtain ⟨ad158, A158_1, c158_1, e158, hx158_0, hx158_1, hl158_1, hi158_1⟩ := at_T62 HR0_1.out x29_2 p158 q158
                        cases e158
                        replace hx158_0 := (HB.out.cell (World.block_lt_of_cell? w _ hx158_0)).trans hx158_0
                        replace hx158_1 := (HB.out.cell (World.block_lt_of_cell? w _ hx158_1)).trans hx158_1
                        have HR158_1 := Aside0.mk hi158_1
                        have HC158_1 := Aside0.mk hl158_1
                        clear hi158_1 hl158_1
                        replace p158 := eq_true p158
                        replace q158 := eq_true q158
                        go_wp2_with (first | ((with_reducible refine gate_dst (N := 5) rfl ?_); (try (refine gate_guard (by rfl) ?_; dsimp only)); refine box_event ?hg (N := 5) ?hd (cs := #[.int .i64 0, .slice none 0 0]) (t := 62) ?hr ?_; (case hd => rfl); (case hg => rfl); (case hr => first | (go_simp; done) | (go_simp; rfl)); intro gb159 hg w26 hbox hb; have n0_ := Aside0.mk (Rgn.bb BK157.out hb); have n1_ := Aside0.mk (below_step (Rgn.bq HB.out) hb); have n2_ := Aside0.mk (hbox); have n3_ := Aside0.mk ((by rw [hg]; exact (below_size (Rgn.bq HB.out)) : w.heap.size ≤ gb159)); have n4_ := Aside0.mk ((by rw [hg]; exact (below_size (Rgn.bq HB.out)) : w.heap.size ≤ gb159)); have n5_ := Aside0.mk ((by rw [hg]; exact Nat.ne_of_lt (blk_lt (g := gb157) (o := .cells #[.slice A0_0 l0_0.length c0_0, .slice (some ad158) l0_1.length c0_1] 29 (0, 0)) (Rgn.kb BK157.out)) : gb157 ≠ gb159)); have n6_ := Aside0.mk ((by rw [hg]; exact Nat.ne_of_gt (blk_lt (g := gb157) (o := .cells #[.slice A0_0 l0_0.length c0_0, .slice (some ad158) l0_1.length c0_1] 29 (0, 0)) (Rgn.kb BK157.out)) : gb159 ≠ gb157)); clear BK157; clear HB; have BK157 := n0_; have HB := n1_; have BK159 := n2_; have GW159 := n3_; have GE159 := n4_; have NB157_159 := n5_; have NB159_157 := n6_; clear n0_ n1_ n2_ n3_ n4_ n5_ n6_; clear hb hbox hg; have hnb27 := NB159_157.out; have hnc27 := NB157_159.out; have hcz28_0 : w26.cell? ⟨gb159, 0, none⟩ = some (.int .i64 0) := (blk_cell BK159.out 0).trans rfl; have hcz28_1 : w26.cell? ⟨gb159, 1, none⟩ = some (.slice none 0 0) := (blk_cell BK159.out 1).trans rfl; have hfz28_0 := blk_frozen BK159.out 0; have hfz28_1 := blk_frozen BK159.out 1))
                        go_ret
                        exact ⟨by first | rfl | (simp [errW_none, errW_some] <;> rfl) | (simp [*, errW_none, errW_some] <;> rfl), Rgn.bq HB.out⟩
                · rw [if_neg c13] at H
                  exact absurd H (by simp)
              · rw [if_neg c12] at H
                exact absurd H (by simp)
            · rw [if_neg c11] at H
              have c11b0 : decide (x29_2 < (l0_1.length : Int)) = false := decide_eq_false c11
              clear c11
              obtain rfl := Option.some.inj H
              go_wp2
              go_ret
              exact ⟨by first | rfl | (simp [errW_none, errW_some] <;> rfl) | (simp [*, errW_none, errW_some] <;> rfl), Rgn.bq HB.out⟩

/-! ### impl_cp: function 77 -/
def impl_cp.f (l0 : List Int) : Option (List Int) := (some (([] : List Int) : List Int)).bind fun y160 => (if y160.length + l0.length < 140737488355328 then (some (y160 ++ l0)) else (none))
set_option maxHeartbeats 8000000 in
set_option maxRecDepth 100000 in
theorem impl_cp.calls (A0 : Option Addr) (c0 : Nat) (l0 : List Int) (r : List Int) (w : World) (hr0 : Kd.C (Kd.int .u8) w A0 l0.length l0) (hc0 : l0.length ≤ c0) (h : impl_cp.f l0 = some r) :
    Calls Try.prog 77 #[.slice A0 l0.length c0] w fun e w' => ∃ v0_ : Value, e = .returned (v0_) ∧ Kd.R (Kd.int .u8) 5 w' w.heap.size (fun _ => True) v0_ r ∧ Below w.heap.size w w' := by
  have HR0 := Aside0.mk hr0
  have HC0 := Aside0.mk hc0
  clear hr0 hc0
  have HB := Aside0.mk (Below.refl w.heap.size w)
  have H : ((some (([] : List Int) : List Int)).bind fun y160 => (if y160.length + l0.length < 140737488355328 then (some (y160 ++ l0)) else (none))) = some r := h
  clear h
  obtain ⟨y160, hy160⟩ : ∃ y_ : List Int, y_ = (([] : List Int)) := ⟨_, rfl⟩
  replace H : (if y160.length + l0.length < 140737488355328 then (some (y160 ++ l0)) else (none)) = some r := by first | (rw [hy160]; with_reducible exact H) | (have H2_ := (Option.bind_some _ _).symm.trans H; rw [hy160]; with_reducible exact H2_) | (have H2_ := (Option.bind_some _ _).symm.trans H; with_reducible exact H2_) | with_reducible exact H | (rw [hy160]; exact H) | exact H
  have Ny160 := Aside0.mk hy160
  clear hy160
  by_cases c2 : y160.length + l0.length < 140737488355328
  · rw [if_pos c2] at H
    have LMc2 := Aside0.mk c2
    clear c2
    obtain ⟨y163, hy163⟩ : ∃ y_ : List Int, y_ = (y160 ++ l0) := ⟨_, rfl⟩
    replace H : (some y163) = some r := by first | (rw [hy163]; with_reducible exact H) | (have H2_ := (Option.bind_some _ _).symm.trans H; rw [hy163]; with_reducible exact H2_) | (have H2_ := (Option.bind_some _ _).symm.trans H; with_reducible exact H2_) | with_reducible exact H | (rw [hy163]; exact H) | exact H
    have Ny163 := Aside0.mk hy163
    clear hy163
    obtain rfl := Option.some.inj H
    go_enter Try.func77, Try.ntmps77
    go_wp2_with (first | ((with_reducible refine gate_dst (N := 3) rfl ?_); refine Kd.R_lit (Kd.int .u8) _ 5 ?hg (N := 3) ?hd (xs := ([] : List Int)) (inner := []) (ok := fun _ => True) (okp := fun _ => True) ?hr ?hp (fun _ hk => hk) trivial (Below.refl _ _) (Nat.le_refl _) (by simp) ?_; (case hd => rfl); (case hg => rfl); (case hr => first | (go_simp; done) | (go_simp; rfl)); (case hp => exact (Reps.none _ _)); intro v161 w3 ho4 hb hg_ hnew_; clear hg_ hnew_; (first | rw [← Ny160.out] at ho4 | (simp only [Int.reduceToNat] at ho4; rw [← Ny160.out] at ho4)); have n0_ := Aside0.mk (Kd.R_lower ho4 (below_size (Rgn.bq HB.out))); have n1_ := Aside0.mk (below_step (Rgn.bq HB.out) hb); clear HB; have HO162 := n0_; have HB := n1_; clear n0_ n1_; clear hb ho4) | ((with_reducible refine gate_builtin (b := .append) (xs := #[.tmp 3, .tmp 4]) rfl ?_); at_builtin; refine Kd.R_append_rows (Kd.int .u8) (w0 := w) w.heap.size rfl (.tmp 3) (.tmp 4) 22 5 (.int .u8 0) 1 rfl Try.underlying22 info5 rfl (by decide) (by omega) v161 y160 l0 _ _ _ (fun _ => True) (fun _ => False) rfl rfl ?aO ?aR (fun _ _ h => h) (fun _ h => h.elim) ?aF ?aB ?aS ?aL ?_; (case aR => exact Rgn.cq (Kd.C_below HR0.out HB.out)); (case aB => exact (Rgn.bq HB.out)); (case aF => exact (fun _ _ => trivial)); (case aO => exact (Rgn.rq HO162.out)); (case aS => exact (below_size (Rgn.bq HB.out))); (case aL => have := LMc2.out; omega); intro v164 w5 ho hb hg hat; rw [← Ny163.out] at ho; have n0_ := Aside0.mk (hb); have n1_ := Aside0.mk (ho); clear HB; clear HO162; have HB := n0_; have HO165 := n1_; clear n0_ n1_; clear ho hb hg hat))
    go_ret
    exact ⟨_, by first | rfl | (simp [errW_none, errW_some] <;> rfl) | (simp [*, errW_none, errW_some] <;> rfl), Rgn.rq HO165.out, Rgn.bq HB.out⟩
  · rw [if_neg c2] at H
    exact absurd H (by simp)

/-! ### impl_twin: function 79 -/
def impl_twin.l0 : Nat → List (S62) → Int → Int → List Int → List (S62) → Option (List Int × (List (S62)))
  | 0, _, _, _, _, _ => none
  | k + 1, x11, x12, x13, x172000, x172001 => if x13 < x12 then (if 0 ≤ x13 then (if x13 < (x11.length : Int) then ((impl_cp.f ((rd_T62 x11 x13).f1)).bind fun t174 => (if x172001.length < 4398046511104 then (impl_twin.l0 k x11 x12 (wrap64 (x13 + 1)) x172000 (x172001 ++ [(⟨(rd_T62 x11 x13).f0, t174⟩ : S62)])) else (none))) else (none)) else (none)) else (some (x172000, x172001))
def impl_twin.f (k : Nat) (l0_0 : List Int) (l0_1 : List (S62)) : Option (List Int × (List (S62))) := (impl_cp.f l0_0).bind fun t168 => (impl_twin.l0 k l0_1 (l0_1.length : Int) 0 t168 ([] : List (S62)))
theorem impl_twin.mono_l : ∀ k, (∀ y0 y1 y2 y3 y4, LeO (impl_twin.l0 k y0 y1 y2 y3 y4) (impl_twin.l0 (k + 1) y0 y1 y2 y3 y4))
  | 0 => fun _ _ _ _ _ r h => by simp [impl_twin.l0] at h
  | k + 1 => by
    have ih0 := impl_twin.mono_l k
    · intro y0 y1 y2 y3 y4
      unfold impl_twin.l0
      repeat' first
      | (with_reducible exact ih0 _ _ _ _ _)
      | (with_reducible exact LeO.refl _)
      | (with_reducible exact LeO.none _)
      | (with_reducible refine LeO.ite ?_ ?_)
      | (with_reducible refine LeO.bind ?_ (fun _ => ?_))
      | exact ih0 _ _ _ _ _
      | exact LeO.none _
      | refine LeO.ite ?_ ?_
      | refine LeO.bind ?_ (fun _ => ?_)
theorem impl_twin.mono : ∀ a0 a1 k, LeO (impl_twin.f k a0 a1) (impl_twin.f (k + 1) a0 a1) := by
  intro a0 a1 k
  have ih0 := impl_twin.mono_l k
  unfold impl_twin.f
  repeat' first
      | (with_reducible exact ih0 _ _ _ _ _)
      | (with_reducible exact LeO.refl _)
      | (with_reducible exact LeO.none _)
      | (with_reducible refine LeO.ite ?_ ?_)
      | (with_reducible refine LeO.bind ?_ (fun _ => ?_))
      | exact ih0 _ _ _ _ _
      | exact LeO.none _
      | refine LeO.ite ?_ ?_
      | refine LeO.bind ?_ (fun _ => ?_)
def impl_twin.T5 : Bool × List (List Nat × List Nat) := (true, [([], []), ([0], [0]), ([], []), ([2], [2]), ([], []), ([4], [4]), ([5], [5]), ([3, 6], [3, 6]), ([7], [7]), ([1, 8, 6], [1, 8]), ([0, 1, 2, 3, 4, 5, 6, 7, 8, 9], []), ([10, 9, 9, 0, 1, 2, 3, 4, 5, 6, 7, 8, 9], [9, 10])])
def impl_twin.B5 : List Nat := [0, 1, 0, 4, 0, 16, 48, 124, 252, 511, 1023, 2047]
theorem impl_twin.tab5 : rtab .any (opsOf Try.f79 5) = impl_twin.T5 := by kernel_rfl
theorem impl_twin.bits5 : waitsOk impl_twin.T5.2 impl_twin.B5 = true := by kernel_rfl
set_option maxHeartbeats 8000000 in
set_option maxRecDepth 100000 in
theorem impl_twin.calls (k : Nat) (A0_0 : Option Addr) (c0_0 : Nat) (l0_0 : List Int) (A0_1 : Option Addr) (c0_1 : Nat) (l0_1 : List (S62)) (r1 : List Int) (r2 : List (S62)) (w : World) (hr0_0 : Kd.C (Kd.int .u8) w A0_0 l0_0.length l0_0) (hc0_0 : l0_0.length ≤ c0_0) (hr0_1 : Kd.C k62 w A0_1 l0_1.length l0_1) (hc0_1 : l0_1.length ≤ c0_1) (h : impl_twin.f k l0_0 l0_1 = some (r1, r2)) :
    Calls Try.prog 79 #[.agg #[.slice A0_0 l0_0.length c0_0, .slice A0_1 l0_1.length c0_1]] w fun e w' => ∃ v0_ v1_ : Value, e = .returned (.agg #[v0_, v1_]) ∧ Kd.R (Kd.int .u8) 5 w' w.heap.size (fun _ => True) v0_ r1 ∧ Kd.S k62 62 w' w.heap.size (fun k_ => some k_ ≠ (v0_ : Value).ownBlock) v1_ r2 ∧ Below w.heap.size w w' := by
  have hu29 := Try.underlying29
  have hu62 := Try.underlying62
  have HR0_0 := Aside0.mk hr0_0
  have HC0_0 := Aside0.mk hc0_0
  clear hr0_0 hc0_0
  have HR0_1 := Aside0.mk hr0_1
  have HC0_1 := Aside0.mk hc0_1
  clear hr0_1 hc0_1
  have HB := Aside0.mk (Below.refl w.heap.size w)
  have H : ((impl_cp.f l0_0).bind fun t168 => (impl_twin.l0 k l0_1 (l0_1.length : Int) 0 t168 ([] : List (S62)))) = some (r1, r2) := h
  clear h
  replace H := Option.bind_eq_some_iff.mp H
  obtain ⟨t168, A20, H⟩ := H
  replace H : (impl_twin.l0 k l0_1 (l0_1.length : Int) 0 t168 ([] : List (S62))) = some (r1, r2) := H
  have A2 := Aside0.mk A20
  clear A20
  have H' := Aside0.mk H
  clear H
  go_enter Try.func79, Try.ntmps79
  go_wp2_with (first | ((with_reducible refine gate_dst (N := 1) rfl ?_); refine box_event ?hg (N := 1) ?hd (cs := #[.slice A0_0 l0_0.length c0_0, .slice A0_1 l0_1.length c0_1]) (t := 29) ?hr ?_; (case hd => rfl); (case hg => rfl); (case hr => first | (go_simp; done) | (go_simp; rfl)); intro gb166 hg w3 hbox hb; have n0_ := Aside0.mk (below_step (Rgn.bq HB.out) hb); have n1_ := Aside0.mk (hbox); have n2_ := Aside0.mk ((by rw [hg]; exact (below_size (Rgn.bq HB.out)) : w.heap.size ≤ gb166)); have n3_ := Aside0.mk ((by rw [hg]; exact (below_size (Rgn.bq HB.out)) : w.heap.size ≤ gb166)); clear HB; have HB := n0_; have BK166 := n1_; have GW166 := n2_; have GE166 := n3_; clear n0_ n1_ n2_ n3_; clear hb hbox hg) | ((with_reducible refine gate_dst (N := 2) rfl ?_); refine box_event ?hg (N := 2) ?hd (cs := #[.slice none 0 0, .slice none 0 0]) (t := 29) ?hr ?_; (case hd => rfl); (case hg => rfl); (case hr => first | (go_simp; done) | (go_simp; rfl)); intro gb167 hg w4 hbox hb; have n0_ := Aside0.mk (Rgn.bb BK166.out hb); have n1_ := Aside0.mk (below_step (Rgn.bq HB.out) hb); have n2_ := Aside0.mk (hbox); have n3_ := Aside0.mk ((by rw [hg]; exact (below_size (Rgn.bq HB.out)) : w.heap.size ≤ gb167)); have n4_ := Aside0.mk ((by rw [hg]; exact (below_size (Rgn.bq HB.out)) : w.heap.size ≤ gb167)); have n5_ := Aside0.mk ((by rw [hg]; exact Nat.ne_of_lt (blk_lt (g := gb166) (o := .cells #[.slice A0_0 l0_0.length c0_0, .slice A0_1 l0_1.length c0_1] 29 (0, 0)) (Rgn.kb BK166.out)) : gb166 ≠ gb167)); have n6_ := Aside0.mk ((by rw [hg]; exact Nat.ne_of_gt (blk_lt (g := gb166) (o := .cells #[.slice A0_0 l0_0.length c0_0, .slice A0_1 l0_1.length c0_1] 29 (0, 0)) (Rgn.kb BK166.out)) : gb167 ≠ gb166)); clear BK166; clear HB; have BK166 := n0_; have HB := n1_; have BK167 := n2_; have GW167 := n3_; have GE167 := n4_; have NB166_167 := n5_; have NB167_166 := n6_; clear n0_ n1_ n2_ n3_ n4_ n5_ n6_; clear hb hbox hg; have hnb5 := NB166_167.out; have hnc5 := NB167_166.out; have hcz6_0 : w4.cell? ⟨gb166, 0, none⟩ = some (.slice A0_0 l0_0.length c0_0) := (blk_cell BK166.out 0).trans rfl; have hcz6_1 : w4.cell? ⟨gb166, 1, none⟩ = some (.slice A0_1 l0_1.length c0_1) := (blk_cell BK166.out 1).trans rfl; have hfz6_0 := blk_frozen BK166.out 0; have hfz6_1 := blk_frozen BK166.out 1) | ((with_reducible refine gate_callee (f := 77) rfl ?_); refine Rgn.gl (some 8) Try.func77 #[.slice A0_0 l0_0.length c0_0] ?_; (with_reducible refine (impl_cp.calls _ _ l0_0 t168 _ ?side1 ?side2 A2.out).mono ?_); (case side1 => exact Rgn.cq (Kd.C_below HR0_0.out HB.out)); (case side2 => exact HC0_0.out); rintro e w7 ⟨v169, rfl, ho0, hb⟩; refine ⟨_, rfl, ?_⟩; have n0_ := Aside0.mk (Kd.R_lower ho0 (below_size (Rgn.bq HB.out))); have n1_ := Aside0.mk (Rgn.bb BK166.out hb); have n2_ := Aside0.mk (Rgn.bb BK167.out hb); have n3_ := Aside0.mk (below_step (Rgn.bq HB.out) hb); clear BK166; clear BK167; clear HB; have HO170 := n0_; have BK166 := n1_; have BK167 := n2_; have HB := n3_; clear n0_ n1_ n2_ n3_; (try clear hb); (try clear hb2); (try clear hk); (try clear hi); (try clear ho0); obtain ⟨Ao8, co8, eo8⟩ := Kd.R_slice HO170.out; subst eo8) | ((with_reducible refine gate_dst (N := 3) rfl ?_); refine box_event ?hg (N := 3) ?hd (cs := #[.slice none 0 0, .slice none 0 0]) (t := 29) ?hr ?_; (case hd => rfl); (case hg => rfl); (case hr => first | (go_simp; done) | (go_simp; rfl)); intro gb171 hg w9 hbox hb; have n0_ := Aside0.mk (Kd.R_below (Rgn.rq HO170.out) hb); have n1_ := Aside0.mk (Rgn.bb BK166.out hb); have n2_ := Aside0.mk (Rgn.bb BK167.out hb); have n3_ := Aside0.mk (below_step (Rgn.bq HB.out) hb); have n4_ := Aside0.mk (hbox); have n5_ := Aside0.mk ((by rw [hg]; exact (below_size (Rgn.bq HB.out)) : w.heap.size ≤ gb171)); have n6_ := Aside0.mk ((by rw [hg]; exact (below_size (Rgn.bq HB.out)) : w.heap.size ≤ gb171)); have n7_ := Aside0.mk ((by rw [hg]; exact Nat.ne_of_lt (blk_lt (g := gb166) (o := .cells #[.slice A0_0 l0_0.length c0_0, .slice A0_1 l0_1.length c0_1] 29 (0, 0)) (Rgn.kb BK166.out)) : gb166 ≠ gb171)); have n8_ := Aside0.mk ((by rw [hg]; exact Nat.ne_of_gt (blk_lt (g := gb166) (o := .cells #[.slice A0_0 l0_0.length c0_0, .slice A0_1 l0_1.length c0_1] 29 (0, 0)) (Rgn.kb BK166.out)) : gb171 ≠ gb166)); have n9_ := Aside0.mk ((by rw [hg]; exact Nat.ne_of_lt (blk_lt (g := gb167) (o := .cells #[.slice none 0 0, .slice none 0 0] 29 (0, 0)) (Rgn.kb BK167.out)) : gb167 ≠ gb171)); have n10_ := Aside0.mk ((by rw [hg]; exact Nat.ne_of_gt (blk_lt (g := gb167) (o := .cells #[.slice none 0 0, .slice none 0 0] 29 (0, 0)) (Rgn.kb BK167.out)) : gb171 ≠ gb167)); clear HO170; clear BK166; clear BK167; clear HB; have HO170 := n0_; have BK166 := n1_; have BK167 := n2_; have HB := n3_; have BK171 := n4_; have GW171 := n5_; have GE171 := n6_; have NB166_171 := n7_; have NB171_166 := n8_; have NB167_171 := n9_; have NB171_167 := n10_; clear n0_ n1_ n2_ n3_ n4_ n5_ n6_ n7_ n8_ n9_ n10_; clear hb hbox hg; have hnb10 := NB171_166.out; have hnc10 := NB166_171.out; have hnb11 := NB171_167.out; have hnc11 := NB167_171.out; have hcz12_0 : w9.cell? ⟨gb171, 0, none⟩ = some (.slice none 0 0) := (blk_cell BK171.out 0).trans rfl; have hcz12_1 : w9.cell? ⟨gb171, 1, none⟩ = some (.slice none 0 0) := (blk_cell BK171.out 1).trans rfl; have hfz12_0 := blk_frozen BK171.out 0; have hfz12_1 := blk_frozen BK171.out 1; have hcz13_0 : w9.cell? ⟨gb166, 0, none⟩ = some (.slice A0_0 l0_0.length c0_0) := (blk_cell BK166.out 0).trans rfl; have hcz13_1 : w9.cell? ⟨gb166, 1, none⟩ = some (.slice A0_1 l0_1.length c0_1) := (blk_cell BK166.out 1).trans rfl; have hfz13_0 := blk_frozen BK166.out 0; have hfz13_1 := blk_frozen BK166.out 1))
  go_loopg [13] k (fun kq v13 w' => ∃ (x13_1 : Int) (x172001_1 : List (S62)) (u172001 : Value), v13 = .int .i64 x13_1 ∧ Aside0 (impl_twin.l0 kq l0_1 (l0_1.length : Int) x13_1 t168 x172001_1 = some (r1, r2)) ∧ Aside0 (kq ≤ k) ∧ Aside0 (Kd.R (Kd.int .u8) 5 w' w.heap.size (fun _ => True) (.slice Ao8 t168.length co8) t168) ∧ Aside0 (Kd.S k62 62 w' w.heap.size (fun k_ => some k_ ≠ ((.slice Ao8 t168.length co8) : Value).ownBlock) u172001 x172001_1) ∧ Aside0 (w'.heap[gb166]? = some (.cells #[(.slice A0_0 l0_0.length c0_0), (.slice A0_1 l0_1.length c0_1)] 29 (0, 0))) ∧ Aside0 (w'.heap[gb167]? = some (.cells #[(.slice none 0 0), (.slice none 0 0)] 29 (0, 0))) ∧ Aside0 (w'.heap[gb171]? = some (.cells #[(.slice Ao8 t168.length co8), u172001] 29 (0, 0))) ∧ Aside0 (Below w.heap.size w w'))
  case atStart => exact ⟨(0), (([] : List (S62))), (.slice none 0 0), (by first | rfl | (simp; done) | (simp [*]; done)), H', ⟨Nat.le_refl _⟩, ⟨by (with_reducible repeat (first | apply Kd.R_alloc | apply Kd.R_drewN | apply Kd.R_drew)); exact Kd.R_mono (Kd.R_far (p := ⟨gb171, 1, none⟩) (Kd.R_far (p := ⟨gb171, 0, none⟩) (Kd.R_types HO170.out BK171.out (by decide)) (fun _ hk => hk.2) (.slice Ao8 t168.length co8)) (fun _ hk => hk.2) (.slice none 0 0)) (fun _ hk => trivial)⟩, ⟨by first | exact Kd.S_nil _ _ _ _ _ | exact Kd.N_nil _ _ _ _ _ | exact Kd.V_nil _ _ _ _ _ | exact Kd.Q_nil _ _ _ _ _ | exact Kd.R_nil _ _ _ _ _⟩, ⟨by (with_reducible repeat (first | refine blk_drewN ?_ _ | refine blk_drew ?_ | refine blk_alloc ?_ _)); refine blk_far ?_ NB166_171.out _; (with_reducible repeat (first | refine blk_drewN ?_ _ | refine blk_drew ?_ | refine blk_alloc ?_ _)); refine blk_far ?_ NB166_171.out _; (with_reducible repeat (first | refine blk_drewN ?_ _ | refine blk_drew ?_ | refine blk_alloc ?_ _)); exact BK166.out⟩, ⟨by (with_reducible repeat (first | refine blk_drewN ?_ _ | refine blk_drew ?_ | refine blk_alloc ?_ _)); refine blk_far ?_ NB167_171.out _; (with_reducible repeat (first | refine blk_drewN ?_ _ | refine blk_drew ?_ | refine blk_alloc ?_ _)); refine blk_far ?_ NB167_171.out _; (with_reducible repeat (first | refine blk_drewN ?_ _ | refine blk_drew ?_ | refine blk_alloc ?_ _)); exact BK167.out⟩, ⟨by (with_reducible repeat (first | refine blk_drewN ?_ _ | refine blk_drew ?_ | refine blk_alloc ?_ _)); refine blk_put (cs := #[.slice Ao8 t168.length co8, .slice none 0 0]) ?_ 1 _ rfl; (with_reducible repeat (first | refine blk_drewN ?_ _ | refine blk_drew ?_ | refine blk_alloc ?_ _)); refine blk_put (cs := #[.slice none 0 0, .slice none 0 0]) ?_ 0 _ rfl; (with_reducible repeat (first | refine blk_drewN ?_ _ | refine blk_drew ?_ | refine blk_alloc ?_ _)); exact BK171.out⟩, ⟨Rgn.bq HB.out⟩⟩
  case round =>
    clear H'
    try clear c1
    try clear p2
    try clear c5
    try clear c7
    try clear c10
    try clear c11
    try clear hcz12_0
    try clear hcz12_1
    try clear hcz13_0
    try clear hcz13_1
    try clear hcz6_0
    try clear hcz6_1
    try clear hfz12_0
    try clear hfz12_1
    try clear hfz13_0
    try clear hfz13_1
    try clear hfz6_0
    try clear hfz6_1
    obtain ⟨x13_1, x172001_1, u172001, rfl, HA, HK1, HO_172000, HO_172001, BK166, BK167, BK171, HB⟩ := hrel
    cases gk with
    | zero => exact absurd HA.out (by simp [impl_twin.l0])
    | succ k1 =>
      have H := HA.out
      clear HA
      simp only [impl_twin.l0] at H
      by_cases c14 : x13_1 < (l0_1.length : Int)
      · rw [if_pos c14] at H
        have c14b0 : decide (x13_1 < (l0_1.length : Int)) = true := decide_eq_true c14
        clear c14
        by_cases c15 : 0 ≤ x13_1
        · rw [if_pos c15] at H
          have c15b0 : decide (0 ≤ x13_1) = true := decide_eq_true c15
          clear c15
          by_cases c16 : x13_1 < (l0_1.length : Int)
          · rw [if_pos c16] at H
            have c16b0 : decide (x13_1 < (l0_1.length : Int)) = true := decide_eq_true c16
            clear c16
            replace H := Option.bind_eq_some_iff.mp H
            obtain ⟨t174, A170, H⟩ := H
            replace H : (if x172001_1.length < 4398046511104 then (impl_twin.l0 k1 l0_1 (l0_1.length : Int) (wrap64 (x13_1 + 1)) t168 (x172001_1 ++ [(⟨(rd_T62 l0_1 x13_1).f0, t174⟩ : S62)])) else (none)) = some (r1, r2) := H
            have A17 := Aside0.mk A170
            clear A170
            by_cases c18 : x172001_1.length < 4398046511104
            · rw [if_pos c18] at H
              have LMc18 := Aside0.mk c18
              clear c18
              obtain ⟨y177, hy177⟩ : ∃ y_ : List (S62), y_ = (x172001_1 ++ [(⟨(rd_T62 l0_1 x13_1).f0, t174⟩ : S62)]) := ⟨_, rfl⟩
              replace H : (impl_twin.l0 k1 l0_1 (l0_1.length : Int) (wrap64 (x13_1 + 1)) t168 y177) = some (r1, r2) := by first | (rw [hy177]; with_reducible exact H) | (have H2_ := (Option.bind_some _ _).symm.trans H; rw [hy177]; with_reducible exact H2_) | (have H2_ := (Option.bind_some _ _).symm.trans H; with_reducible exact H2_) | with_reducible exact H | (rw [hy177]; exact H) | exact H
              have Ny177 := Aside0.mk hy177
              clear hy177
              have H' := Aside0.mk H
              clear H
              have p172 : 0 ≤ (x13_1 : Int) := of_decide_eq_true (by first | (with_reducible assumption) | assumption)
              have q172 : x13_1 < (l0_1.length : Int) := of_decide_eq_true (by first | (with_reducible assumption) | assumption)
              obtain ⟨ad172, A172_1, c172_1, e172, hx172_0, hx172_1, hl172_1, hi172_1⟩ := at_T62 HR0_1.out x13_1 p172 q172
              cases e172
              replace hx172_0 := (HB.out.cell (World.block_lt_of_cell? w _ hx172_0)).trans hx172_0
              replace hx172_1 := (HB.out.cell (World.block_lt_of_cell? w _ hx172_1)).trans hx172_1
              have HR172_1 := Aside0.mk hi172_1
              have HC172_1 := Aside0.mk hl172_1
              clear hi172_1 hl172_1
              replace p172 := eq_true p172
              replace q172 := eq_true q172
              try go_wp2_with (first | ((with_reducible refine gate_dst (N := 5) rfl ?_); refine box_event ?hg (N := 5) ?hd (cs := #[.int .i64 0, .slice none 0 0]) (t := 62) ?hr ?_; (case hd => rfl); (case hg => rfl); (case hr => first | (go_simp; done) | (go_simp; rfl)); intro gb173 hg w19 hbox hb; have n0_ := Aside0.mk (Kd.R_below (Rgn.rq HO_172000.out) hb); have n1_ := Aside0.mk (Kd.S_below (Kd.S_elderB (Rgn.sq HO_172001.out) gb173 (Nat.le_of_eq hg.symm)) hb); have n2_ := Aside0.mk (Rgn.bb BK166.out hb); have n3_ := Aside0.mk (Rgn.bb BK167.out hb); have n4_ := Aside0.mk (Rgn.bb BK171.out hb); have n5_ := Aside0.mk (below_step (Rgn.bq HB.out) hb); have n6_ := Aside0.mk (hbox); have n7_ := Aside0.mk ((by rw [hg]; exact (below_size (Rgn.bq HB.out)) : w.heap.size ≤ gb173)); have n8_ := Aside0.mk ((by rw [hg]; exact (below_size (Rgn.bq HB.out)) : w.heap.size ≤ gb173)); have n9_ := Aside0.mk ((by rw [hg]; exact Nat.ne_of_lt (blk_lt (g := gb166) (o := .cells #[.slice A0_0 l0_0.length c0_0, .slice (some ad172) l0_1.length c0_1] 29 (0, 0)) (Rgn.kb BK166.out)) : gb166 ≠ gb173)); have n10_ := Aside0.mk ((by rw [hg]; exact Nat.ne_of_gt (blk_lt (g := gb166) (o := .cells #[.slice A0_0 l0_0.length c0_0, .slice (some ad172) l0_1.length c0_1] 29 (0, 0)) (Rgn.kb BK166.out)) : gb173 ≠ gb166)); have n11_ := Aside0.mk ((by rw [hg]; exact Nat.ne_of_lt (blk_lt (g := gb167) (o := .cells #[.slice none 0 0, .slice none 0 0] 29 (0, 0)) (Rgn.kb BK167.out)) : gb167 ≠ gb173)); have n12_ := Aside0.mk ((by rw [hg]; exact Nat.ne_of_gt (blk_lt (g := gb167) (o := .cells #[.slice none 0 0, .slice none 0 0] 29 (0, 0)) (Rgn.kb BK167.out)) : gb173 ≠ gb167)); have n13_ := Aside0.mk ((by rw [hg]; exact Nat.ne_of_lt (blk_lt (g := gb171) (o := .cells #[.slice Ao8 t168.length co8, u172001] 29 (0, 0)) (Rgn.kb BK171.out)) : gb171 ≠ gb173)); have n14_ := Aside0.mk ((by rw [hg]; exact Nat.ne_of_gt (blk_lt (g := gb171) (o := .cells #[.slice Ao8 t168.length co8, u172001] 29 (0, 0)) (Rgn.kb BK171.out)) : gb173 ≠ gb171)); clear HO_172000; clear HO_172001; clear BK166; clear BK167; clear BK171; clear HB; have HO_172000 := n0_; have HO_172001 := n1_; have BK166 := n2_; have BK167 := n3_; have BK171 := n4_; have HB := n5_; have BK173 := n6_; have GW173 := n7_; have GE173 := n8_; have NB166_173 := n9_; have NB173_166 := n10_; have NB167_173 := n11_; have NB173_167 := n12_; have NB171_173 := n13_; have NB173_171 := n14_; clear n0_ n1_ n2_ n3_ n4_ n5_ n6_ n7_ n8_ n9_ n10_ n11_ n12_ n13_ n14_; clear hb hbox hg; have hnb20 := NB173_166.out; have hnc20 := NB166_173.out; have hnb21 := NB173_167.out; have hnc21 := NB167_173.out; have hnb22 := NB173_171.out; have hnc22 := NB171_173.out; have hcz23_0 : w19.cell? ⟨gb173, 0, none⟩ = some (.int .i64 0) := (blk_cell BK173.out 0).trans rfl; have hcz23_1 : w19.cell? ⟨gb173, 1, none⟩ = some (.slice none 0 0) := (blk_cell BK173.out 1).trans rfl; have hfz23_0 := blk_frozen BK173.out 0; have hfz23_1 := blk_frozen BK173.out 1))
              have n0_ : Aside0 (Kd.R (Kd.int .u8) 5 ((w19.setCell ⟨gb173, 0, none⟩ (.int .i64 ((rd_T62 l0_1 x13_1).f0))).setCell ⟨gb173, 1, none⟩ (.slice A172_1 ((rd_T62 l0_1 x13_1).f1).length c172_1)) w.heap.size (fun _ => True) (.slice Ao8 t168.length co8) t168) := ⟨by (with_reducible repeat (first | apply Kd.R_alloc | apply Kd.R_drewN | apply Kd.R_drew)); exact Kd.R_mono (Kd.R_far (p := ⟨gb173, 1, none⟩) (Kd.R_far (p := ⟨gb173, 0, none⟩) (Kd.R_types HO_172000.out BK173.out (by decide)) (fun _ hk => hk.2) (.int .i64 ((rd_T62 l0_1 x13_1).f0))) (fun _ hk => hk.2) (.slice A172_1 ((rd_T62 l0_1 x13_1).f1).length c172_1)) (fun _ hk => trivial)⟩
              have n1_ : Aside0 (Kd.S k62 62 ((w19.setCell ⟨gb173, 0, none⟩ (.int .i64 ((rd_T62 l0_1 x13_1).f0))).setCell ⟨gb173, 1, none⟩ (.slice A172_1 ((rd_T62 l0_1 x13_1).f1).length c172_1)) w.heap.size (fun k_ => some k_ ≠ (.slice Ao8 t168.length co8 : Value).ownBlock ∧ k_ ≠ gb173) u172001 x172001_1) := ⟨by (with_reducible repeat (first | apply Kd.S_alloc | apply Kd.S_drewN | apply Kd.S_drew)); exact Kd.S_mono (Kd.S_far (p := ⟨gb173, 1, none⟩) (Kd.S_far (p := ⟨gb173, 0, none⟩) (Kd.S_mono HO_172001.out (fun k_ hk => (⟨hk, hk.2⟩ : _ ∧ k_ ≠ gb173))) (fun _ hk => hk.2) (.int .i64 ((rd_T62 l0_1 x13_1).f0))) (fun _ hk => hk.2) (.slice A172_1 ((rd_T62 l0_1 x13_1).f1).length c172_1)) (fun _ hk => ⟨hk.1.1, hk.1.2⟩)⟩
              have n2_ : Aside0 (((w19.setCell ⟨gb173, 0, none⟩ (.int .i64 ((rd_T62 l0_1 x13_1).f0))).setCell ⟨gb173, 1, none⟩ (.slice A172_1 ((rd_T62 l0_1 x13_1).f1).length c172_1)).heap[gb166]? = some (.cells #[.slice A0_0 l0_0.length c0_0, .slice (some ad172) l0_1.length c0_1] 29 (0, 0))) := ⟨by (with_reducible repeat (first | refine blk_drewN ?_ _ | refine blk_drew ?_ | refine blk_alloc ?_ _)); refine blk_far ?_ NB166_173.out _; (with_reducible repeat (first | refine blk_drewN ?_ _ | refine blk_drew ?_ | refine blk_alloc ?_ _)); refine blk_far ?_ NB166_173.out _; (with_reducible repeat (first | refine blk_drewN ?_ _ | refine blk_drew ?_ | refine blk_alloc ?_ _)); exact BK166.out⟩
              have n3_ : Aside0 (((w19.setCell ⟨gb173, 0, none⟩ (.int .i64 ((rd_T62 l0_1 x13_1).f0))).setCell ⟨gb173, 1, none⟩ (.slice A172_1 ((rd_T62 l0_1 x13_1).f1).length c172_1)).heap[gb167]? = some (.cells #[.slice none 0 0, .slice none 0 0] 29 (0, 0))) := ⟨by (with_reducible repeat (first | refine blk_drewN ?_ _ | refine blk_drew ?_ | refine blk_alloc ?_ _)); refine blk_far ?_ NB167_173.out _; (with_reducible repeat (first | refine blk_drewN ?_ _ | refine blk_drew ?_ | refine blk_alloc ?_ _)); refine blk_far ?_ NB167_173.out _; (with_reducible repeat (first | refine blk_drewN ?_ _ | refine blk_drew ?_ | refine blk_alloc ?_ _)); exact BK167.out⟩
              have n4_ : Aside0 (((w19.setCell ⟨gb173, 0, none⟩ (.int .i64 ((rd_T62 l0_1 x13_1).f0))).setCell ⟨gb173, 1, none⟩ (.slice A172_1 ((rd_T62 l0_1 x13_1).f1).length c172_1)).heap[gb171]? = some (.cells #[.slice Ao8 t168.length co8, u172001] 29 (0, 0))) := ⟨by (with_reducible repeat (first | refine blk_drewN ?_ _ | refine blk_drew ?_ | refine blk_alloc ?_ _)); refine blk_far ?_ NB171_173.out _; (with_reducible repeat (first | refine blk_drewN ?_ _ | refine blk_drew ?_ | refine blk_alloc ?_ _)); refine blk_far ?_ NB171_173.out _; (with_reducible repeat (first | refine blk_drewN ?_ _ | refine blk_drew ?_ | refine blk_alloc ?_ _)); exact BK171.out⟩
              have n5_ : Aside0 (((w19.setCell ⟨gb173, 0, none⟩ (.int .i64 ((rd_T62 l0_1 x13_1).f0))).setCell ⟨gb173, 1, none⟩ (.slice A172_1 ((rd_T62 l0_1 x13_1).f1).length c172_1)).heap[gb173]? = some (.cells #[.int .i64 ((rd_T62 l0_1 x13_1).f0), .slice A172_1 ((rd_T62 l0_1 x13_1).f1).length c172_1] 62 (0, 0))) := ⟨by (with_reducible repeat (first | refine blk_drewN ?_ _ | refine blk_drew ?_ | refine blk_alloc ?_ _)); refine blk_put (cs := #[.int .i64 ((rd_T62 l0_1 x13_1).f0), .slice none 0 0]) ?_ 1 _ rfl; (with_reducible repeat (first | refine blk_drewN ?_ _ | refine blk_drew ?_ | refine blk_alloc ?_ _)); refine blk_put (cs := #[.int .i64 0, .slice none 0 0]) ?_ 0 _ rfl; (with_reducible repeat (first | refine blk_drewN ?_ _ | refine blk_drew ?_ | refine blk_alloc ?_ _)); exact BK173.out⟩
              have n6_ : Aside0 (Below w.heap.size w ((w19.setCell ⟨gb173, 0, none⟩ (.int .i64 ((rd_T62 l0_1 x13_1).f0))).setCell ⟨gb173, 1, none⟩ (.slice A172_1 ((rd_T62 l0_1 x13_1).f1).length c172_1))) := ⟨Rgn.bq HB.out⟩
              (try clear HO_172000)
              (try clear HO_172001)
              (try clear BK166)
              (try clear BK167)
              (try clear BK171)
              (try clear BK173)
              (try clear HB)
              generalize ((w19.setCell ⟨gb173, 0, none⟩ (.int .i64 ((rd_T62 l0_1 x13_1).f0))).setCell ⟨gb173, 1, none⟩ (.slice A172_1 ((rd_T62 l0_1 x13_1).f1).length c172_1)) = w24 at n0_ n1_ n2_ n3_ n4_ n5_ n6_ ⊢
              have HO_172000 := n0_
              have HO_172001 := n1_
              have BK166 := n2_
              have BK167 := n3_
              have BK171 := n4_
              have BK173 := n5_
              have HB := n6_
              clear n0_ n1_ n2_ n3_ n4_ n5_ n6_
              have n0_ := Aside0.mk (Kd.R_drew HO_172000.out)
              have n1_ := Aside0.mk (Kd.S_drew HO_172001.out)
              have n2_ := Aside0.mk (blk_drew BK166.out)
              have n3_ := Aside0.mk (blk_drew BK167.out)
              have n4_ := Aside0.mk (blk_drew BK171.out)
              have n5_ := Aside0.mk (blk_drew BK173.out)
              have n6_ := Aside0.mk (below_drew1 HB.out)
              clear HO_172000
              clear HO_172001
              clear BK166
              clear BK167
              clear BK171
              clear BK173
              clear HB
              have HO_172000 := n0_
              have HO_172001 := n1_
              have BK166 := n2_
              have BK167 := n3_
              have BK171 := n4_
              have BK173 := n5_
              have HB := n6_
              clear n0_ n1_ n2_ n3_ n4_ n5_ n6_
              refine start_ (n := 12) (S := fun w' => w'.cell? ⟨gb171, 0, none⟩ = some (.slice Ao8 t168.length co8) ∧ w'.cell? ⟨gb171, 1, none⟩ = some (u172001) ∧ w'.cell? ⟨gb173, 0, none⟩ = some (.int .i64 ((rd_T62 l0_1 x13_1).f0)) ∧ w'.cell? ⟨gb173, 1, none⟩ = some (.slice A172_1 ((rd_T62 l0_1 x13_1).f1).length c172_1)) (ds := [11]) #[false, false, false, false, false, false, false, false, false, false, false, false] (by kernel_rfl) rfl rfl ⟨(blk_cell BK171.out 0).trans rfl, (blk_cell BK171.out 1).trans rfl, (blk_cell BK173.out 0).trans rfl, (blk_cell BK173.out 1).trans rfl⟩ (fun hHeld => ?_); refine with_tabW impl_twin.tab5 impl_twin.bits5 (fun HT_ HW_ => ?_)
              generalize w24.drew = w25 at HO_172000 HO_172001 BK166 BK167 BK171 BK173 HB hHeld ⊢
              refine Rgn.pu HT_.out 0 17 ?_
              refine Rgn.pu HT_.out 2 19 ?_
              refine Rgn.pu HT_.out 4 21 ?_
              refine Rgn.tk HT_.out HW_.out 1 18 hHeld ?_
              refine Rgn.tk HT_.out HW_.out 3 20 hHeld ?_
              refine Rgn.tk HT_.out HW_.out 5 22 hHeld ?_
              refine one_ (i := 6) (N := some 23) #[true, true, true, true, true, true, true, false, false, false, false, false] rfl rfl (one_of HT_.out (by kernel_rfl)) (by decide) (fun K hK => ?_)
              refine Rgn.gs Try.func77 #[.slice A172_1 ((rd_T62 l0_1 x13_1).f1).length c172_1] ?_
              with_reducible refine (impl_cp.calls _ _ ((rd_T62 l0_1 x13_1).f1) t174 _ ?side1 ?side2 A17.out).mono ?_
              (case side1 => exact Rgn.cq (Kd.C_below HR172_1.out HB.out))
              (case side2 => exact HC172_1.out)
              rintro e w26 ⟨v175, rfl, ho0, hb⟩
              refine ⟨_, rfl, ?_⟩
              have n0_ := Aside0.mk (Kd.R_elder' (Rgn.rq HO_172000.out) (Kd.R_base ho0) hb)
              have n1_ := Aside0.mk (Kd.S_elder' (Rgn.sq HO_172001.out) (Kd.R_base ho0) hb)
              have n2_ := Aside0.mk (Kd.R_lower (Kd.R_new' ho0 (Kd.R_lt (Rgn.rq HO_172000.out))) (below_size (Rgn.bq HB.out)))
              have n3_ := Aside0.mk (Rgn.bb BK166.out hb)
              have n4_ := Aside0.mk (Rgn.bb BK167.out hb)
              have n5_ := Aside0.mk (Rgn.bb BK171.out hb)
              have n6_ := Aside0.mk (Rgn.bb BK173.out hb)
              have n7_ := Aside0.mk (below_step (Rgn.bq HB.out) hb)
              clear HO_172000
              clear HO_172001
              clear BK166
              clear BK167
              clear BK171
              clear BK173
              clear HB
              have HO_172000 := n0_
              have HO_172001 := n1_
              have HO176 := n2_
              have BK166 := n3_
              have BK167 := n4_
              have BK171 := n5_
              have BK173 := n6_
              have HB := n7_
              clear n0_ n1_ n2_ n3_ n4_ n5_ n6_ n7_
              (try clear hb)
              (try clear hb2)
              (try clear hk)
              (try clear hi)
              (try clear ho0)
              obtain ⟨Ao27, co27, eo27⟩ := Kd.R_slice HO176.out
              (first | subst eo27 | (injection eo27 with f1_ f2_ f3_; have f4_ := f1_.symm; have f5_ := f3_.symm; clear f1_ f2_ f3_; subst f4_; subst f5_))
              refine hK.out _ _ ⟨(blk_cell BK171.out 0).trans rfl, (blk_cell BK171.out 1).trans rfl, (blk_cell BK173.out 0).trans rfl, (blk_cell BK173.out 1).trans rfl⟩ (fun hHeld => ?_)
              clear hK K
              refine norm_ (a' := ?_) ?_ ?_
              rotate_left
              · show Act.put _ (some 23) _ = _
                simp only [Act.put, List.setIfInBounds_toArray, List.set_cons_zero, List.set_cons_succ, i64_w, i32_w]
                rfl
              refine Rgn.pu HT_.out 7 24 ?_
              refine one_ (i := 8) (N := some 25) #[true, true, true, true, true, true, true, true, true, false, false, false] rfl rfl (one_of HT_.out (by kernel_rfl)) (by decide) (fun K hK => ?_)
              refine value_ (w1 := ?_) (v := ?_) (by rfl) rfl ?_ ?_
              rotate_left 2
              · go_simp
                constructor
                · rfl
                · rfl
              refine hK.out _ _ ⟨(blk_cell (blk_alloc BK171.out _) 0).trans rfl, (blk_cell (blk_alloc BK171.out _) 1).trans rfl, (blk_cell (blk_alloc BK173.out _) 0).trans rfl, (blk_cell (blk_alloc BK173.out _) 1).trans rfl⟩ (fun hHeld => ?_)
              clear hK K
              refine norm_ (a' := ?_) ?_ ?_
              rotate_left
              · show Act.put _ (some 25) _ = _
                simp only [Act.put, List.setIfInBounds_toArray, List.set_cons_zero, List.set_cons_succ, i64_w, i32_w]
                rfl
              refine one_ (i := 9) (N := some 26) #[true, true, true, true, true, true, true, true, true, true, false, false] rfl rfl (one_of HT_.out (by kernel_rfl)) (by decide) (fun K hK => ?_)
              refine Kd.S_append_step k62 (w0 := w) w.heap.size (by rfl) (.tmp 18) (.tmp 25) 27 62 (.agg #[(.int .i64 0), (.slice none 0 0)]) 32 rfl Try.underlying27 info62 rfl (by decide) (by omega) u172001 x172001_1 (⟨(rd_T62 l0_1 x13_1).f0, t174⟩ : S62) [.int .i64 ((rd_T62 l0_1 x13_1).f0), .slice Ao27 t174.length co27] (fun k_ => some k_ ≠ (.slice Ao8 t168.length co8 : Value).ownBlock ∧ k_ ≠ gb173) (fun k_ => some k_ = (.slice Ao27 t174.length co27 : Value).ownBlock) rfl rfl ?aP (fun k_ hk_ => ((Kd.R_mono (ok' := fun k_ => ((fun k_ => some k_ ≠ (.slice Ao8 t168.length co8 : Value).ownBlock ∧ k_ ≠ gb173)) k_ ∧ some k_ ≠ (u172001 : Value).ownBlock) (Kd.R_types (Kd.R_apart' (HO176.out) (Kd.S_typed HO_172001.out) (by decide)) BK173.out (by decide)) (fun k_ hk => ⟨⟨hk.1.1.2, hk.2⟩, hk.1.2⟩))).1 k_ hk_.symm) ?aF ?aO ?aB ?aS ?aL ?_
              (case aP => exact k62_mkM _ _ _ (⟨(rd_T62 l0_1 x13_1).f0, t174⟩ : S62) (Kd.R_mono (Kd.R_tight rfl (Kd.R_mono (ok' := fun k_ => ((fun k_ => some k_ ≠ (.slice Ao8 t168.length co8 : Value).ownBlock ∧ k_ ≠ gb173)) k_ ∧ some k_ ≠ (u172001 : Value).ownBlock) (Kd.R_types (Kd.R_apart' (HO176.out) (Kd.S_typed HO_172001.out) (by decide)) BK173.out (by decide)) (fun k_ hk => ⟨⟨hk.1.1.2, hk.2⟩, hk.1.2⟩))) (fun _ h_ => h_)))
              (case aB => exact (Rgn.bq HB.out))
              (case aF => exact (fun k_ hk => ⟨Kd.fresh' (Kd.R_lt (Rgn.rq HO_172000.out)) k_ hk, Kd.freshB (g := gb173) (o := .cells #[.int .i64 ((rd_T62 l0_1 x13_1).f0), .slice A172_1 ((rd_T62 l0_1 x13_1).f1).length c172_1] 62 (0, 0)) (Rgn.kb BK173.out) k_ hk⟩))
              (case aO => exact (by (with_reducible repeat (first | apply Kd.S_alloc | apply Kd.S_drewN | apply Kd.S_drew)); exact Kd.S_mono HO_172001.out (fun k_ hk => ⟨⟨hk.1.1, hk.1.2⟩, fun e_ => hk.2 e_⟩)))
              (case aS => exact (below_size (Rgn.bq HB.out)))
              (case aL => have := LMc18.out; omega)
              intro v178 w28 ho hb hg hat
              rw [← Ny177.out] at ho
              have n0_ := Aside0.mk (Kd.R_over' (Rgn.rq HO_172000.out) (Kd.S_typed (Rgn.sq HO_172001.out)) (by decide) hg)
              have n1_ := Aside0.mk (blk_grown (g := gb166) (o := .cells #[.slice A0_0 l0_0.length c0_0, .slice (some ad172) l0_1.length c0_1] 29 (0, 0)) (Rgn.kb BK166.out) hg (Kd.S_ne HO_172001.out BK166.out (by decide)))
              have n2_ := Aside0.mk (blk_grown (g := gb167) (o := .cells #[.slice none 0 0, .slice none 0 0] 29 (0, 0)) (Rgn.kb BK167.out) hg (Kd.S_ne HO_172001.out BK167.out (by decide)))
              have n3_ := Aside0.mk (blk_grown (g := gb171) (o := .cells #[.slice Ao8 t168.length co8, u172001] 29 (0, 0)) (Rgn.kb BK171.out) hg (Kd.S_ne HO_172001.out BK171.out (by decide)))
              have n4_ := Aside0.mk (blk_grown (g := gb173) (o := .cells #[.int .i64 ((rd_T62 l0_1 x13_1).f0), .slice A172_1 ((rd_T62 l0_1 x13_1).f1).length c172_1] 62 (0, 0)) (Rgn.kb BK173.out) hg (Kd.S_away HO_172001.out (fun _ hk => hk.1.2)))
              have n5_ := Aside0.mk (hb)
              have n6_ := Aside0.mk (ho)
              clear HO_172000
              clear BK166
              clear BK167
              clear BK171
              clear BK173
              clear HB
              clear HO_172001
              clear HO176
              have HO_172000 := n0_
              have BK166 := n1_
              have BK167 := n2_
              have BK171 := n3_
              have BK173 := n4_
              have HB := n5_
              have HO179 := n6_
              clear n0_ n1_ n2_ n3_ n4_ n5_ n6_
              clear ho hb hg hat
              obtain ⟨Ao29, co29, eo29⟩ := Kd.S_slice HO179.out
              (first | subst eo29 | (injection eo29 with f1_ f2_ f3_; have f4_ := f1_.symm; have f5_ := f3_.symm; clear f1_ f2_ f3_; subst f4_; subst f5_))
              refine hK.out _ _ ⟨(blk_cell BK171.out 0).trans rfl, (blk_cell BK171.out 1).trans rfl, (blk_cell BK173.out 0).trans rfl, (blk_cell BK173.out 1).trans rfl⟩ (fun hHeld => ?_)
              clear hK K
              refine norm_ (a' := ?_) ?_ ?_
              rotate_left
              · show Act.put _ (some 26) _ = _
                simp only [Act.put, List.setIfInBounds_toArray, List.set_cons_zero, List.set_cons_succ, i64_w, i32_w]
                rfl
              refine Rgn.pu HT_.out 10 27 ?_
              refine last_ (i := 11) (N := none) #[true, true, true, true, true, true, true, true, true, true, true, true] rfl rfl (one_of HT_.out (by kernel_rfl)) (by decide) (fun K hK => ?_)
              have hs30 : w28.cell? ⟨gb171, 1, none⟩ = some (u172001) := (blk_cell BK171.out 1).trans rfl
              have hfs30 := blk_frozen BK171.out 1
              have hns30_0 := NB166_171.out
              have hns30_1 := NB167_171.out
              have hns30_3 := NB173_171.out
              have hms30_0 := NB171_166.out
              have hms30_1 := NB171_167.out
              have hms30_3 := NB171_173.out
              refine skip_ (w1 := ?_) (by rfl) rfl ?_ ?_
              rotate_left
              · go_simp
                rfl
              refine hK.out _ _ ?_
              clear hK K
              refine done_ (done_of HT_.out (by kernel_rfl)) ?_
              try go_wp2
              go_roundg k1
              case measure => have := HK1.out; omega
              case rel => exact ⟨(wrap64 (x13_1 + 1)), (y177), (.slice Ao29 y177.length co29), (by first | rfl | (simp; done) | (simp [*]; done)), H', ⟨by have := HK1.out; omega⟩, ⟨by (with_reducible repeat (first | apply Kd.R_alloc | apply Kd.R_drewN | apply Kd.R_drew)); exact Kd.R_mono (Kd.R_far (p := ⟨gb171, 1, none⟩) (Kd.R_types HO_172000.out BK171.out (by decide)) (fun _ hk => hk.2) (.slice Ao29 y177.length co29)) (fun _ hk => trivial)⟩, ⟨by (with_reducible repeat (first | apply Kd.S_alloc | apply Kd.S_drewN | apply Kd.S_drew)); exact Kd.S_mono (Kd.S_far (p := ⟨gb171, 1, none⟩) (Kd.S_types HO179.out BK171.out (by decide)) (fun _ hk => hk.2) (.slice Ao29 y177.length co29)) (fun _ hk => hk.1.1)⟩, ⟨by (with_reducible repeat (first | refine blk_drewN ?_ _ | refine blk_drew ?_ | refine blk_alloc ?_ _)); refine blk_far ?_ NB166_171.out _; (with_reducible repeat (first | refine blk_drewN ?_ _ | refine blk_drew ?_ | refine blk_alloc ?_ _)); exact BK166.out⟩, ⟨by (with_reducible repeat (first | refine blk_drewN ?_ _ | refine blk_drew ?_ | refine blk_alloc ?_ _)); refine blk_far ?_ NB167_171.out _; (with_reducible repeat (first | refine blk_drewN ?_ _ | refine blk_drew ?_ | refine blk_alloc ?_ _)); exact BK167.out⟩, ⟨by (with_reducible repeat (first | refine blk_drewN ?_ _ | refine blk_drew ?_ | refine blk_alloc ?_ _)); refine blk_put (cs := #[.slice Ao8 t168.length co8, u172001]) ?_ 1 _ rfl; (with_reducible repeat (first | refine blk_drewN ?_ _ | refine blk_drew ?_ | refine blk_alloc ?_ _)); exact BK171.out⟩, ⟨Rgn.bq HB.out⟩⟩
            · rw [if_neg c18] at H
              exact absurd H (by simp)
          · rw [if_neg c16] at H
            exact absurd H (by simp)
        · rw [if_neg c15] at H
          exact absurd H (by simp)
      · rw [if_neg c14] at H
        have c14b0 : decide (x13_1 < (l0_1.length : Int)) = false := decide_eq_false c14
        clear c14
        simp only [Option.some.injEq, Prod.mk.injEq] at H
        obtain ⟨rfl, rfl⟩ := H
        have hnb31 := NB171_166.out
        have hnc31 := NB166_171.out
        have hnb32 := NB171_167.out
        have hnc32 := NB167_171.out
        have hcz33_0 : wr.cell? ⟨gb171, 0, none⟩ = some (.slice Ao8 t168.length co8) := (blk_cell BK171.out 0).trans rfl
        have hcz33_1 : wr.cell? ⟨gb171, 1, none⟩ = some (u172001) := (blk_cell BK171.out 1).trans rfl
        have hfz33_0 := blk_frozen BK171.out 0
        have hfz33_1 := blk_frozen BK171.out 1
        have hnb34 := NB167_166.out
        have hnc34 := NB166_167.out
        have hcz35_0 : wr.cell? ⟨gb167, 0, none⟩ = some (.slice none 0 0) := (blk_cell BK167.out 0).trans rfl
        have hcz35_1 : wr.cell? ⟨gb167, 1, none⟩ = some (.slice none 0 0) := (blk_cell BK167.out 1).trans rfl
        have hfz35_0 := blk_frozen BK167.out 0
        have hfz35_1 := blk_frozen BK167.out 1
        obtain ⟨Ao36, co36, eo36⟩ := Kd.S_slice HO_172001.out
        subst eo36
        go_wp2
        refine bodyPost_ret (results_cell_row rfl _ _ gb167 29 #[.slice Ao8 t168.length co8, .slice Ao36 x172001_1.length co36] (0, 0) _ rfl (by (with_reducible repeat (first | refine blk_drewN ?_ _ | refine blk_drew ?_ | refine blk_alloc ?_ _)); refine blk_put (cs := #[.slice Ao8 t168.length co8, .slice none 0 0]) ?_ 1 _ rfl; (with_reducible repeat (first | refine blk_drewN ?_ _ | refine blk_drew ?_ | refine blk_alloc ?_ _)); refine blk_put (cs := #[.slice none 0 0, .slice none 0 0]) ?_ 0 _ rfl; (with_reducible repeat (first | refine blk_drewN ?_ _ | refine blk_drew ?_ | refine blk_alloc ?_ _)); exact BK167.out) Try.underlying29 rfl (by kernel_rfl)) rfl ?_
        exact ⟨_, _, by first | rfl | (simp [errW_none, errW_some] <;> rfl) | (simp [*, errW_none, errW_some] <;> rfl), by (with_reducible repeat (first | apply Kd.R_alloc | apply Kd.R_drewN | apply Kd.R_drew)); exact Kd.R_mono (Kd.R_far (p := ⟨gb167, 1, none⟩) (Kd.R_far (p := ⟨gb167, 0, none⟩) (Kd.R_types HO_172000.out BK167.out (by decide)) (fun _ hk => hk.2) (.slice Ao8 t168.length co8)) (fun _ hk => hk.2) (.slice Ao36 x172001_1.length co36)) (fun _ hk => trivial), by (with_reducible repeat (first | apply Kd.S_alloc | apply Kd.S_drewN | apply Kd.S_drew)); exact Kd.S_mono (Kd.S_far (p := ⟨gb167, 1, none⟩) (Kd.S_far (p := ⟨gb167, 0, none⟩) (Kd.S_types HO_172001.out BK167.out (by decide)) (fun _ hk => hk.2) (.slice Ao8 t168.length co8)) (fun _ hk => hk.2) (.slice Ao36 x172001_1.length co36)) (fun _ hk => hk.1), Rgn.bq HB.out⟩

end Go.Proofs.Ytdhjhadcadcceaa.PFnExactDiskDo
