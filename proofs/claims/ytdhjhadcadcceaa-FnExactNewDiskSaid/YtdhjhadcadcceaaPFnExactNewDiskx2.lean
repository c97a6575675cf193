-- written by a program of this session (wip/src/print2.py)
import Derived.Test.YtdhjhadcadcceaaPFnExactNewDiskx0
import Derived.Test.YtdhjhadcadcceaaPFnExactNewDiskx1
namespace Go.Proofs.Ytdhjhadcadcceaa.PFnExactNewDisk
open Go.RowKit Go.Proofs.YtdhjhadcadcceaaW.PrintWords Go.Proofs.YtdhjhadcadcceaaW.PrintLast Go.Proofs.YtdhjhadcadcceaaW.PrintMore
attribute [local go_sem] max2_int min2_int max_two min_two max_three min_three max_four min_four   -- for this text's walks alone
set_option linter.unusedVariables false
set_option linter.unusedSimpArgs false

/-! ### laws_markByteS: function 18 -/
def laws_markByteS.l0 : Nat → List Int → Int → Int → Option (Int × List Int)
  | 0, _, _, _ => none
  | k + 1, x0, x1, x5 => if x5 < (x0.length : Int) then (if 0 ≤ x5 then (laws_markByteS.l0 k (x0.set (x5 : Int).toNat ((x1) % 256)) (wrap64 (x1 + 1)) (wrap64 (x5 + 1))) else (none)) else (some (x1, x0))
def laws_markByteS.f (k : Nat) (l0 : List Int) (a1 : Int) : Option (Int × List Int) := laws_markByteS.l0 k l0 a1 0
theorem laws_markByteS.mono_l : ∀ k, (∀ y0 y1 y2, LeO (laws_markByteS.l0 k y0 y1 y2) (laws_markByteS.l0 (k + 1) y0 y1 y2))
  | 0 => fun _ _ _ r h => by simp [laws_markByteS.l0] at h
  | k + 1 => by
    have ih0 := laws_markByteS.mono_l k
    · intro y0 y1 y2
      unfold laws_markByteS.l0
      repeat' first
      | (with_reducible exact ih0 _ _ _)
      | (with_reducible exact LeO.refl _)
      | (with_reducible exact LeO.none _)
      | (with_reducible refine LeO.ite ?_ ?_)
      | (with_reducible refine LeO.bind ?_ (fun _ => ?_))
      | exact ih0 _ _ _
      | exact LeO.none _
      | refine LeO.ite ?_ ?_
      | refine LeO.bind ?_ (fun _ => ?_)
theorem laws_markByteS.mono : ∀ a0 a1 k, LeO (laws_markByteS.f k a0 a1) (laws_markByteS.f (k + 1) a0 a1) := by
  intro a0 a1 k
  have ih0 := laws_markByteS.mono_l k
  unfold laws_markByteS.f
  repeat' first
      | (with_reducible exact ih0 _ _ _)
      | (with_reducible exact LeO.refl _)
      | (with_reducible exact LeO.none _)
      | (with_reducible refine LeO.ite ?_ ?_)
      | (with_reducible refine LeO.bind ?_ (fun _ => ?_))
      | exact ih0 _ _ _
      | exact LeO.none _
      | refine LeO.ite ?_ ?_
      | refine LeO.bind ?_ (fun _ => ?_)
set_option maxHeartbeats 8000000 in
set_option maxRecDepth 100000 in
theorem laws_markByteS.calls (k : Nat) (P0_ : Nat → Prop) (u9000_ : Value) (l0 : List Int) (a1 : Int) (r1 : Int) (r2 : List Int) (w0 w : World) (hB : Below w0.heap.size w0 w) (ho0 : Kd.R (Kd.int .u8) 5 w w0.heap.size P0_ u9000_ l0) (h : laws_markByteS.f k l0 a1 = some (r1, r2)) :
    Calls Try.prog 18 #[u9000_, .int .i64 a1] w fun e w' => e = .returned (.int .i64 r1) ∧ Kd.R (Kd.int .u8) 5 w' w0.heap.size (fun k_ => (P0_ k_ ∨ w.heap.size ≤ k_)) u9000_ r2 ∧ Below w0.heap.size w0 w' ∧ Kept w w' (fun k_ => P0_ k_) := by
  have HO0 := Aside0.mk (show Kd.R (Kd.int .u8) 5 w w0.heap.size (fun k_ => (P0_ k_ ∨ w.heap.size ≤ k_)) u9000_ l0 from Kd.R_mono ho0 (fun k_ hk => (.inl hk)))
  have HK := Aside0.mk (Kept.refl w (fun k_ => P0_ k_))
  have HW0 := Aside0.mk hB.size
  have HB := Aside0.mk hB
  clear hB
  have H : (laws_markByteS.l0 k l0 a1 0) = some (r1, r2) := h
  clear h
  have H' := Aside0.mk H
  clear H
  go_enter Try.func18, Try.ntmps18
  go_wp2
  go_loopg [1, 5] k (fun kq v1 v5 w' => ∃ (x0_1 : List Int) (x1_1 : Int) (x5_1 : Int), v1 = .int .i64 x1_1 ∧ v5 = .int .i64 x5_1 ∧ Aside0 (laws_markByteS.l0 kq x0_1 x1_1 x5_1 = some (r1, r2)) ∧ Aside0 (kq ≤ k) ∧ Aside0 (Kd.R (Kd.int .u8) 5 w' w0.heap.size (fun k_ => (P0_ k_ ∨ w.heap.size ≤ k_)) u9000_ x0_1) ∧ Aside0 (Kept w w' (fun k_ => P0_ k_)) ∧ Aside0 (Below w0.heap.size w0 w'))
  case atStart => exact ⟨(l0), (a1), (0), (by first | rfl | (simp; done) | (simp [*]; done)), (by first | rfl | (simp; done) | (simp [*]; done)), H', ⟨Nat.le_refl _⟩, ⟨by (with_reducible repeat (first | apply Kd.R_alloc | apply Kd.R_drewN | apply Kd.R_drew)); exact HO0.out⟩, ⟨by repeat (first | (with_reducible first | exact HK.out | apply Kept.alloc | apply Kept.drewN | apply Kept.drew) | exact HK.out)⟩, ⟨by repeat (first | (with_reducible first | exact HB.out | apply below_alloc | apply pw_below_drewN | apply below_drew1) | exact HB.out)⟩⟩
  case round =>
    clear H'
    try clear c1
    try clear p2
    obtain ⟨x0_1, x1_1, x5_1, rfl, rfl, HA, HK1, HO_0, HK, HB⟩ := hrel
    cases gk with
    | zero => exact absurd HA.out (by simp [laws_markByteS.l0])
    | succ k1 =>
      have H := HA.out
      clear HA
      simp only [laws_markByteS.l0] at H
      by_cases c3 : x5_1 < (x0_1.length : Int)
      · rw [if_pos c3] at H
        have c3b0 : decide (x5_1 < (x0_1.length : Int)) = true := decide_eq_true c3
        clear c3
        by_cases c4 : 0 ≤ x5_1
        · rw [if_pos c4] at H
          have c4b0 : decide (0 ≤ x5_1) = true := decide_eq_true c4
          clear c4
          obtain ⟨y121, hy121⟩ : ∃ y_ : List Int, y_ = (x0_1.set (x5_1 : Int).toNat ((x1_1) % 256)) := ⟨_, rfl⟩
          replace H : (laws_markByteS.l0 k1 y121 (wrap64 (x1_1 + 1)) (wrap64 (x5_1 + 1))) = some (r1, r2) := by first | (rw [hy121]; with_reducible exact H) | (have H2_ := (Option.bind_some _ _).symm.trans H; rw [hy121]; with_reducible exact H2_) | (have H2_ := (Option.bind_some _ _).symm.trans H; with_reducible exact H2_) | with_reducible exact H | (rw [hy121]; exact H) | exact H
          have Ny121 := Aside0.mk hy121
          clear hy121
          have H' := Aside0.mk H
          clear H
          obtain ⟨Ao6, co6, eo6⟩ := Kd.R_slice HO_0.out
          subst eo6
          have p5 : 0 ≤ (x5_1 : Int) := of_decide_eq_true (by first | (with_reducible assumption) | assumption)
          have q5 : (x5_1 : Int) < ((x0_1.length : Int) : Int) := of_decide_eq_true (by first | (with_reducible assumption) | assumption)
          obtain ⟨go5, co5, eo5, gb5, gl5, cl5, HG5⟩ := Kd.R_form HO_0.out (by omega)
          (first | cases eo5 | (injection eo5 with ea_ en_ ec_; (first | subst ea_ | (injection ea_ with ea_; subst ea_)); subst ec_; clear en_))
          have GB5 := Aside0.mk gb5
          have GG5 := Aside0.mk HG5
          clear gb5 gl5 HG5
          have HMgo5 := Aside0.mk (show (P0_ go5 ∨ w.heap.size ≤ go5) from (HO_0.out.1 _ rfl))
          obtain ⟨hx5_0, hf5_0⟩ := Kd.R_celln 0 HO_0.out (x5_1 : Int) p5 q5
          replace p5 := eq_true p5
          replace q5 := eq_true q5
          have HP7 := Kd.R_putg HO_0.out (x5_1 : Int) ((x1_1) % 256)
          go_wp2_with (first | ((with_reducible refine gate_store (t := 5) (p := 16) rfl ?_); refine store_event (t := 5) (p := 16) (v := ?vo_w8) (w1 := (wr.setCell ⟨go5, (x5_1 : Int).toNat, none⟩ (.int .u8 ((x1_1) % 256)))) ?hg ?ho ?hn ?hr ?_; (case ho => rfl); (case hg => rfl); (case hn => rfl); (case hr => first | (go_simp; done) | (go_simp; rfl)); intro w8 hw; have hg : wr.grownBy w8 (some go5) := (by rw [hw]; exact HP7.2); have hp_ : Kd.R (Kd.int .u8) 5 w8 w0.heap.size (fun k_ => (P0_ k_ ∨ w.heap.size ≤ k_)) (.slice (some ⟨go5, 0, none⟩) x0_1.length co6) y121 := (by rw [hw, Ny121.out]; exact HP7.1); clear HP7; have n0_ := Aside0.mk (hp_); have n1_ := Aside0.mk ((by rw [hw]; exact below_set (HB.out) GB5.out : Below w0.heap.size w0 w8)); have n2_ := Aside0.mk (Kept.of_grown (S := (fun k_ => P0_ k_)) hg (by repeat (first | (with_reducible first | exact HK.out | apply Kept.alloc | apply Kept.drewN | apply Kept.drew) | exact HK.out)) (fun k_ e_ => (HO_0.out.1 k_ e_))); clear HO_0; clear HB; clear HK; have HO_0 := n0_; have HB := n1_; have HK := n2_; clear n0_ n1_ n2_; clear hg hw hp_))
          go_roundg k1
          case measure => have := HK1.out; omega
          case rel => exact ⟨(y121), (wrap64 (x1_1 + 1)), (wrap64 (x5_1 + 1)), (by first | rfl | (simp; done) | (simp [*]; done)), (by first | rfl | (simp; done) | (simp [*]; done)), H', ⟨by have := HK1.out; omega⟩, ⟨by (with_reducible repeat (first | apply Kd.R_alloc | apply Kd.R_drewN | apply Kd.R_drew)); exact HO_0.out⟩, ⟨by repeat (first | (with_reducible first | exact HK.out | apply Kept.alloc | apply Kept.drewN | apply Kept.drew) | exact HK.out)⟩, ⟨by repeat (first | (with_reducible first | exact HB.out | apply below_alloc | apply pw_below_drewN | apply below_drew1) | exact HB.out)⟩⟩
        · rw [if_neg c4] at H
          exact absurd H (by simp)
      · rw [if_neg c3] at H
        have c3b0 : decide (x5_1 < (x0_1.length : Int)) = false := decide_eq_false c3
        clear c3
        simp only [Option.some.injEq, Prod.mk.injEq] at H
        obtain ⟨rfl, rfl⟩ := H
        obtain ⟨Ao9, co9, eo9⟩ := Kd.R_slice HO_0.out
        subst eo9
        go_wp2
        go_ret
        exact ⟨by first | rfl | (simp [errW_none, errW_some] <;> rfl) | (simp [*, errW_none, errW_some] <;> rfl), by (with_reducible repeat (first | apply Kd.R_alloc | apply Kd.R_drewN | apply Kd.R_drew)); exact HO_0.out, by repeat (first | (with_reducible first | exact HB.out | apply below_alloc | apply pw_below_drewN | apply below_drew1) | exact HB.out), by repeat (first | (with_reducible first | exact HK.out | apply Kept.alloc | apply Kept.drewN | apply Kept.drew) | exact HK.out)⟩

/-! ### laws_markWriteS: function 66 -/
/-- marks of a row of pairs (a number, a row of bytes): each number is written, then the row's bytes. -/
def laws_markWriteS.l0 : Nat → List (S62) → Int → Int → Option (Int × (List (S62)))
  | 0, _, _, _ => none
  | k + 1, x0, x1, x5 => if x5 < (x0.length : Int) then (if 0 ≤ x5 then ((laws_markByteS.f k ((rd_T62 x0 x5).f1) (wrap64 (x1 + 1))).bind fun t => laws_markWriteS.l0 k (x0.set (x5 : Int).toNat (⟨x1, t.2⟩ : S62)) t.1 (wrap64 (x5 + 1))) else none) else some (x1, x0)
def laws_markWriteS.f (k : Nat) (l0 : List (S62)) (a1 : Int) : Option (Int × (List (S62))) := laws_markWriteS.l0 k l0 a1 0
theorem laws_markWriteS.mono_l : ∀ k, (∀ y0 y1 y2, LeO (laws_markWriteS.l0 k y0 y1 y2) (laws_markWriteS.l0 (k + 1) y0 y1 y2))
  | 0 => fun _ _ _ r h => by simp [laws_markWriteS.l0] at h
  | k + 1 => by
    have ih0 := laws_markWriteS.mono_l k
    intro y0 y1 y2
    unfold laws_markWriteS.l0
    refine LeO.ite (LeO.ite (LeO.bind (laws_markByteS.mono _ _ _) (fun _ => ih0 _ _ _)) (LeO.none _)) (LeO.refl _)
theorem laws_markWriteS.mono : ∀ a0 a1 k, LeO (laws_markWriteS.f k a0 a1) (laws_markWriteS.f (k + 1) a0 a1) := fun _ _ k => laws_markWriteS.mono_l k _ _ _
theorem laws_markWriteS.grown {w0 w w' : World} {P : Nat → Prop} {row : Option Nat} (h0 : Below w0.heap.size w0 w) (h1 : Below w0.heap.size w0 w') (hk : Kept w w' P) (hP : ∀ k, P k → some k = row) : w.grownBy w' row :=
  ⟨h1.os.trans h0.os.symm, h1.tape.trans h0.tape.symm, h1.output.trans h0.output.symm, hk.1, fun k hlt hne => hk.2 k hlt (fun hp => hne (hP k hp))⟩
theorem laws_markWriteS.getset (xs : List (S62)) (e : S62) (i : Nat) (hi : i < xs.length) : (xs.set i e).getD i z62 = e := by
  rw [List.getD_eq_getElem?_getD, List.getElem?_set_self hi]; rfl
set_option maxHeartbeats 8000000 in
set_option maxRecDepth 100000 in
theorem laws_markWriteS.calls (k : Nat) (P0_ : Nat → Prop) (u9000_ : Value) (l0 : List (S62)) (a1 : Int) (r1 : Int) (r2 : List (S62)) (w0 w : World) (hB : Below w0.heap.size w0 w) (ho0 : Kd.S k62 62 w w0.heap.size P0_ u9000_ l0) (h : laws_markWriteS.f k l0 a1 = some (r1, r2)) :
    Calls Try.prog 66 #[u9000_, .int .i64 a1] w fun e w' => e = .returned (.int .i64 r1) ∧ Kd.S k62 62 w' w0.heap.size (fun k_ => (P0_ k_ ∨ w.heap.size ≤ k_)) u9000_ r2 ∧ Below w0.heap.size w0 w' ∧ Kept w w' (fun k_ => P0_ k_) := by
  have HO0 := Aside0.mk (show Kd.S k62 62 w w0.heap.size (fun k_ => (P0_ k_ ∨ w.heap.size ≤ k_)) u9000_ l0 from Kd.S_mono ho0 (fun k_ hk => (.inl hk)))
  have HK := Aside0.mk (Kept.refl w (fun k_ => P0_ k_))
  have HB := Aside0.mk hB
  clear hB ho0
  have H : (laws_markWriteS.l0 k l0 a1 0) = some (r1, r2) := h
  clear h
  have H' := Aside0.mk H
  clear H
  go_enter Try.func66, Try.ntmps66
  go_wp2
  go_loopg [1, 5] k (fun kq v1 v5 w' => ∃ (x0_1 : List (S62)) (x1_1 : Int) (x5_1 : Int), v1 = .int .i64 x1_1 ∧ v5 = .int .i64 x5_1 ∧ Aside0 (laws_markWriteS.l0 kq x0_1 x1_1 x5_1 = some (r1, r2)) ∧ Aside0 (kq ≤ k) ∧ Aside0 (Kd.S k62 62 w' w0.heap.size (fun k_ => (P0_ k_ ∨ w.heap.size ≤ k_)) u9000_ x0_1) ∧ Aside0 (Kept w w' (fun k_ => P0_ k_)) ∧ Aside0 (Below w0.heap.size w0 w'))
  case atStart => exact ⟨(l0), (a1), (0), (by first | rfl | (simp; done) | (simp [*]; done)), (by first | rfl | (simp; done) | (simp [*]; done)), H', ⟨Nat.le_refl _⟩, ⟨by (with_reducible repeat (first | apply Kd.S_alloc | apply Kd.S_drewN | apply Kd.S_drew)); exact HO0.out⟩, ⟨by repeat (first | (with_reducible first | exact HK.out | apply Kept.alloc | apply Kept.drewN | apply Kept.drew) | exact HK.out)⟩, ⟨by repeat (first | (with_reducible first | exact HB.out | apply below_alloc | apply pw_below_drewN | apply below_drew1) | exact HB.out)⟩⟩
  case round =>
    clear H' HO0 HK HB
    obtain ⟨x0_1, x1_1, x5_1, rfl, rfl, HA, HK1, HO_0, HK, HB⟩ := hrel
    cases gk with
    | zero => exact absurd HA.out (by simp [laws_markWriteS.l0])
    | succ k1 =>
      have H := HA.out
      clear HA
      simp only [laws_markWriteS.l0] at H
      by_cases c3 : x5_1 < (x0_1.length : Int)
      · rw [if_pos c3] at H
        have c3b0 : decide (x5_1 < (x0_1.length : Int)) = true := decide_eq_true c3
        by_cases c4 : 0 ≤ x5_1
        · rw [if_pos c4] at H
          obtain ⟨⟨t1, t2⟩, A60, H⟩ := Option.bind_eq_some_iff.mp H
          have H' := Aside0.mk H
          have A6 := Aside0.mk A60
          clear H A60
          obtain ⟨go5, co5, eo5, gb5, gl5, cl5, HG5⟩ := Kd.S_form HO_0.out (by omega)
          subst eo5
          have HMgo5 := Aside0.mk (show (P0_ go5 ∨ w.heap.size ≤ go5) from ((Kd.S_R HO_0.out).1 _ rfl))
          obtain ⟨oki, ce5, hcl5, hM5, hcc5, hfr5, hoki5, hH5⟩ := Kd.S_elem (Kd.S_mono HO_0.out (ok' := fun k_ => (P0_ k_ ∨ w.heap.size ≤ k_) ∧ ¬ False) (fun _ hk => ⟨hk, fun h => h⟩)) z62 x5_1 c4 c3
          obtain ⟨v1, rfl, hR1⟩ := k62_openM hM5
          have hx5_0 : wr.cell? ⟨go5, (x5_1 : Int).toNat * 2, none⟩ = some (.int .i64 ((rd_T62 x0_1 x5_1).f0)) := hcc5 0 _ rfl
          have hf5_0 : wr.frozen? ⟨go5, (x5_1 : Int).toNat * 2, none⟩ = false := hfr5 0
          have HP := Aside0.mk (Kd.S_seg (ok := fun k_ => P0_ k_ ∨ w.heap.size ≤ k_) (okg := fun _ => False) hH5 c4 c3 (seg := [.int .i64 x1_1]) (j := 0) (show 1 ≤ 2 from by decide) (x' := (⟨x1_1, (rd_T62 x0_1 x5_1).f1⟩ : S62)) (k62_mkM _ _ _ (⟨x1_1, (rd_T62 x0_1 x5_1).f1⟩ : S62) hR1) (fun _ hk => .inl hk) (fun _ hk => hk.elim))
          have GB5 := Aside0.mk gb5
          have HI := Aside0.mk (show 0 ≤ x5_1 ∧ x5_1 < (x0_1.length : Int) from ⟨c4, c3⟩)
          have c4b0 : decide (0 ≤ x5_1) = true := decide_eq_true c4
          have c3e := eq_true c3
          clear hcl5 hM5 hcc5 hfr5 hoki5 hH5 hR1 gb5 gl5 HG5 cl5 c3
          have c4e := eq_true c4
          clear c4
          go_wp2_with (first
            | ((with_reducible refine gate_store (t := 2) (p := 16) rfl ?_); refine store_event (t := 2) (p := 16) (v := ?vo_w10) (w1 := (wr.setCell ⟨go5, (x5_1 : Int).toNat * 2, none⟩ (.int .i64 x1_1))) ?hg ?ho ?hn ?hr ?_; (case ho => rfl); (case hg => rfl); (case hn => rfl); (case hr => first | (go_simp; done) | (go_simp; rfl)); intro w10 hw; have hg : wr.grownBy w10 (some go5) := (by rw [hw]; exact HP.out.2); have hp_ : Kd.S k62 62 w10 w0.heap.size (fun k_ => (P0_ k_ ∨ w.heap.size ≤ k_)) (.slice (some ⟨go5, 0, none⟩) x0_1.length co5) (x0_1.set (x5_1 : Int).toNat (⟨x1_1, (rd_T62 x0_1 x5_1).f1⟩ : S62)) := (by rw [hw]; exact HP.out.1); have n1_ := Aside0.mk ((by rw [hw]; exact below_set (HB.out) GB5.out : Below w0.heap.size w0 w10)); have n2_ := Aside0.mk (Kept.of_grown (S := (fun k_ => P0_ k_)) hg HK.out (fun k_ e_ => (by cases e_; exact HMgo5.out))); clear HP HO_0 HB HK; have HB := n1_; have HK := n2_; clear n1_ n2_ hg hw; obtain ⟨oki2, ce2, hcl2, hM2, hcc2, hoki2, hback⟩ := Kd.S_borrow hp_ z62 x5_1 HI.out.1 HI.out.2; rw [laws_markWriteS.getset _ _ _ (by have := HI.out; omega)] at hM2; obtain ⟨v2, rfl, hR2⟩ := k62_openM hM2; have hx2 : w10.cell? ⟨go5, (x5_1 : Int).toNat * 2 + 1, none⟩ = some v2 := (by have h_ := hcc2 1 _ rfl; rw [add_plain] at h_; exact h_); obtain ⟨A2, cc2, ev2⟩ := Kd.R_slice hR2; subst ev2; have HR2 := Aside0.mk hR2; have HBK := Aside0.mk @hback; have HOK := Aside0.mk hoki2; clear hR2 hcl2 hM2 hcc2 hoki2 hback hp_)
            | ((with_reducible refine gate_callee (f := 18) rfl ?_); refine goesL_ (some 25) rfl rfl Try.func18 (by kernel_rfl) rfl #[.slice A2 ((rd_T62 x0_1 x5_1).f1).length cc2, .int .i64 (wrap64 (x1_1 + 1))] rfl (by (try simp only [List.map_toArray, List.map_cons, List.map_nil]); first | done | rfl | (simp only [List.length_drop, List.length_take]; rfl)) ?_; (with_reducible refine (laws_markByteS.calls k1 (fun k => some k = (Value.slice A2 ((rd_T62 x0_1 x5_1).f1).length cc2).ownBlock) _ ((rd_T62 x0_1 x5_1).f1) (wrap64 (x1_1 + 1)) t1 t2 w0 _ ?s1 ?s2 A6.out).mono ?_); (case s1 => exact (by repeat (first | (with_reducible first | exact HB.out | apply below_alloc | apply pw_below_drewN | apply below_drew1) | exact HB.out))); (case s2 => exact (by (with_reducible repeat (first | apply Kd.R_alloc | apply Kd.R_drewN | apply Kd.R_drew)); exact Kd.R_tight rfl HR2.out)); rintro e w11 ⟨rfl, hR3, hb3, hk3⟩; refine ⟨_, rfl, ?_⟩; have hg3 := laws_markWriteS.grown HB.out hb3 hk3 (fun _ h => h); have n0_ := Aside0.mk (HBK.out hg3 (fun k hk => HR2.out.1 k hk) (k62_mkM _ _ _ (⟨x1_1, t2⟩ : S62) (Kd.R_mono (Kd.R_tight rfl hR3) (fun k hk => HR2.out.1 k hk.symm)))); have n1_ := Aside0.mk (HK.out.then_ hk3 (fun k hk => (HOK.out k (HR2.out.1 k hk.symm)).1)); have n2_ := Aside0.mk hb3; clear HK HB HR2 HBK HOK hR3 hb3 hk3 hg3; rw [List.set_set] at n0_; have HO_0 := n0_; have HK := n1_; have HB := n2_; clear n0_ n1_ n2_))
          go_roundg k1
          case measure => have := HK1.out; omega
          case rel => exact ⟨_, t1, (wrap64 (x5_1 + 1)), (by first | rfl | (simp; done) | (simp [*]; done)), (by first | rfl | (simp; done) | (simp [*]; done)), H', ⟨by have := HK1.out; omega⟩, ⟨by (with_reducible repeat (first | apply Kd.S_alloc | apply Kd.S_drewN | apply Kd.S_drew)); exact HO_0.out⟩, ⟨by repeat (first | (with_reducible first | exact HK.out | apply Kept.alloc | apply Kept.drewN | apply Kept.drew) | exact HK.out)⟩, ⟨by repeat (first | (with_reducible first | exact HB.out | apply below_alloc | apply pw_below_drewN | apply below_drew1) | exact HB.out)⟩⟩
        · rw [if_neg c4] at H
          exact absurd H (by simp)
      · rw [if_neg c3] at H
        have c3b0 : decide (x5_1 < (x0_1.length : Int)) = false := decide_eq_false c3
        clear c3
        simp only [Option.some.injEq, Prod.mk.injEq] at H
        obtain ⟨rfl, rfl⟩ := H
        obtain ⟨Ao14, co14, eo14⟩ := Kd.S_slice HO_0.out
        subst eo14
        go_wp2
        go_ret
        exact ⟨by first | rfl | (simp [errW_none, errW_some] <;> rfl) | (simp [*, errW_none, errW_some] <;> rfl), by (with_reducible repeat (first | apply Kd.S_alloc | apply Kd.S_drewN | apply Kd.S_drew)); exact HO_0.out, by repeat (first | (with_reducible first | exact HB.out | apply below_alloc | apply pw_below_drewN | apply below_drew1) | exact HB.out), by repeat (first | (with_reducible first | exact HK.out | apply Kept.alloc | apply Kept.drewN | apply Kept.drew) | exact HK.out)⟩


/-! ### laws_markDisk: function 23 -/
section
open Go.Proofs.Ytdhjhadcadcceaa.Hld
/-- markDisk: the bytes are marked, then the pending writes. -/
def laws_markDisk.f (k : Nat) (l0 : List Int) (l1 : List (S62)) (a1 : Int) : Option (Int × List Int × List (S62)) := (laws_markByteS.f k l0 a1).bind fun t => (laws_markWriteS.f k l1 t.1).bind fun u => some (u.1, t.2, u.2)
theorem laws_markDisk.mono : ∀ a0 a1 a2 k, LeO (laws_markDisk.f k a0 a1 a2) (laws_markDisk.f (k + 1) a0 a1 a2) := fun _ _ _ k => LeO.bind (laws_markByteS.mono _ _ k) (fun _ => LeO.bind (laws_markWriteS.mono _ _ k) (fun _ => LeO.refl _))
set_option maxHeartbeats 8000000 in
set_option maxRecDepth 100000 in
theorem laws_markDisk.calls (k : Nat) (lo hi : Nat) (A0 : Option Addr) (c0 : Nat) (l0 : List Int) (A1 : Option Addr) (c1 : Nat) (l1 : List (S62)) (a1 : Int) (r0 : Int) (r1 : List Int) (r2 : List (S62)) (w0 w : World) (hB : Below w0.heap.size w0 w)
    (hi2 : hi ≤ w.heap.size) (hd : Two (Kd.int .u8) 5 k62 62 w w0.heap.size (fun k_ => lo ≤ k_ ∧ k_ < hi) (.slice A0 l0.length c0) (.slice A1 l1.length c1) l0 l1) (h : laws_markDisk.f k l0 l1 a1 = some (r0, r1, r2)) :
    Calls Try.prog 23 #[.agg #[.slice A0 l0.length c0, .slice A1 l1.length c1], .int .i64 a1] w fun e w' => e = .returned (.int .i64 r0) ∧ r1.length = l0.length ∧ r2.length = l1.length ∧
      Two (Kd.int .u8) 5 k62 62 w' w0.heap.size (fun k_ => (lo ≤ k_ ∧ k_ < hi) ∨ w.heap.size ≤ k_) (.slice A0 l0.length c0) (.slice A1 l1.length c1) r1 r2 ∧ Below w0.heap.size w0 w' ∧ Kept w w' (fun k_ => lo ≤ k_ ∧ k_ < hi) := by
  obtain ⟨⟨t1, t2⟩, A1_, H⟩ := Option.bind_eq_some_iff.mp h
  obtain ⟨⟨u1, u2⟩, A2_, H⟩ := Option.bind_eq_some_iff.mp H
  clear h
  simp only [Option.some.injEq, Prod.mk.injEq] at H
  obtain ⟨rfl, rfl, rfl⟩ := H
  have C1 := Aside0.mk A1_
  have C2 := Aside0.mk A2_
  clear A1_ A2_
  obtain ⟨p, hR, hS⟩ := hd
  have HR := Aside0.mk hR
  have HS := Aside0.mk hS
  have HB := Aside0.mk hB
  have HH := Aside0.mk hi2
  clear hR hS hB hi2
  go_enter Try.func23, Try.ntmps23
  go_wp2_with (first
    | ((with_reducible refine gate_dst (N := 2) rfl ?_); refine box_event ?hg (N := 2) ?hd (cs := #[.slice A0 l0.length c0, .slice A1 l1.length c1]) (t := 29) ?hr ?_; (case hd => rfl); (case hg => rfl); (case hr => first | (go_simp; done) | (go_simp; rfl)); intro gb hgb w1 hbox hb; have GB := Aside0.mk (show w.heap.size ≤ gb ∧ gb < w1.heap.size from ⟨by omega, blk_lt hbox⟩); have BK1 := Aside0.mk hbox; have HB1 := Aside0.mk (HB.out.trans (hb.mono HB.out.size)); have HR1 := Aside0.mk (Kd.R_below HR.out hb); have HS1 := Aside0.mk (Kd.S_below HS.out hb); have HK1 := Aside0.mk (Kept.of_below hb (fun k_ => lo ≤ k_ ∧ k_ < hi)); clear HB HR HS hb hbox hgb; have hc1 := blk_cell BK1.out; have hc1a : w1.cell? ⟨gb, 0, none⟩ = some (.slice A0 l0.length c0) := hc1 0; have hc1b : w1.cell? ⟨gb, 1, none⟩ = some (.slice A1 l1.length c1) := hc1 1)
    | ((with_reducible refine gate_callee (f := 18) rfl ?_); refine goesL_ (some 8) rfl rfl Try.func18 (by kernel_rfl) rfl #[.slice A0 l0.length c0, .int .i64 a1] rfl (by (try simp only [List.map_toArray, List.map_cons, List.map_nil]); first | done | rfl) ?_; (with_reducible refine (laws_markByteS.calls k (fun k_ => (lo ≤ k_ ∧ k_ < hi) ∧ ¬ p k_) _ l0 a1 t1 t2 w0 _ HB1.out HR1.out C1.out).mono ?_); rintro e w2 ⟨rfl, ho, hb, hk⟩; refine ⟨_, rfl, ?_⟩; have BK2 := Aside0.mk (blk_kept BK1.out hk (fun hq => by have := GB.out; have := HH.out; have := hq.1; omega)); have HB2 := Aside0.mk hb; have HS2 := Aside0.mk (Kd.S_kept HS1.out hk (fun k_ hq hq2 => hq2.2 hq.2)); have HR2 := Aside0.mk (Kd.R_reok rfl ho (fun k_ hk_ => HR1.out.1 k_ hk_)); have HK2 := Aside0.mk (HK1.out.then_ hk (fun k_ hq => .inl hq.1)); have HZ2 := Aside0.mk (show w1.heap.size ≤ w2.heap.size from hk.1); clear HB1 HR1 HS1 HK1 BK1 ho hb hk hc1 hc1a hc1b; have hc2 := blk_cell BK2.out; have hc2a : w2.cell? ⟨gb, 0, none⟩ = some (.slice A0 l0.length c0) := hc2 0; have hc2b : w2.cell? ⟨gb, 1, none⟩ = some (.slice A1 l1.length c1) := hc2 1)
    | ((with_reducible refine gate_callee (f := 66) rfl ?_); refine goesL_ (some 12) rfl rfl Try.func66 (by kernel_rfl) rfl #[.slice A1 l1.length c1, .int .i64 t1] rfl (by (try simp only [List.map_toArray, List.map_cons, List.map_nil]); first | done | rfl) ?_; (with_reducible refine (laws_markWriteS.calls k (fun k_ => (lo ≤ k_ ∧ k_ < hi) ∧ p k_) _ l1 t1 u1 u2 w0 _ HB2.out HS2.out C2.out).mono ?_); rintro e w3 ⟨rfl, ho, hb, hk⟩; refine ⟨_, rfl, ?_⟩; have HB3 := Aside0.mk hb; have HR3 := Aside0.mk (Kd.R_kept HR2.out hk (fun k_ hq hq2 => hq.2 hq2.2)); have HS3 := Aside0.mk ho; have HK3 := Aside0.mk (HK2.out.then_ hk (fun k_ hq => .inl hq.1)); clear HB2 HR2 HS2 HK2 BK2 ho hb hk hc2 hc2a hc2b)
    | fail)
  go_ret
  have n1 := (Kd.R_reads' HR3.out).1
  have n2 := (Kd.S_reads' HS3.out).1
  refine ⟨rfl, n1.symm, n2.symm, ⟨fun k_ => p k_ ∨ w.heap.size ≤ k_, ?_, ?_⟩, HB3.out, HK3.out⟩
  · refine Kd.R_mono HR3.out (fun k_ hq => ⟨.inl hq.1, fun hq2 => ?_⟩)
    rcases hq2 with h2 | h2
    · exact hq.2 h2
    · have := hq.1.2; have := HH.out; omega
  · refine Kd.S_mono HS3.out (fun k_ hq => ?_)
    rcases hq with h1 | h1
    · exact ⟨.inl h1.1, .inl h1.2⟩
    · have hz : w.heap.size ≤ k_ := by have := HZ2.out; have := GB.out; omega
      exact ⟨.inr hz, .inr hz⟩
end


/-! ### laws_heldByteS: function 19 -/
def laws_heldByteS.l0 : Nat → List Int → Int → Int → Option (Int)
  | 0, _, _, _ => none
  | k + 1, x0, x1, x5 => if x5 < (x0.length : Int) then (if 0 ≤ x5 then (if (rd x0 x5) = ((x1) % 256) then (laws_heldByteS.l0 k x0 (wrap64 (x1 + 1)) (wrap64 (x5 + 1))) else (some (-1))) else (none)) else (some x1)
def laws_heldByteS.f (k : Nat) (l0 : List Int) (a1 : Int) : Option (Int) := laws_heldByteS.l0 k l0 a1 0
theorem laws_heldByteS.mono_l : ∀ k, (∀ y0 y1 y2, LeO (laws_heldByteS.l0 k y0 y1 y2) (laws_heldByteS.l0 (k + 1) y0 y1 y2))
  | 0 => fun _ _ _ r h => by simp [laws_heldByteS.l0] at h
  | k + 1 => by
    have ih0 := laws_heldByteS.mono_l k
    · intro y0 y1 y2
      unfold laws_heldByteS.l0
      repeat' first
      | (with_reducible exact ih0 _ _ _)
      | (with_reducible exact LeO.refl _)
      | (with_reducible exact LeO.none _)
      | (with_reducible refine LeO.ite ?_ ?_)
      | (with_reducible refine LeO.bind ?_ (fun _ => ?_))
      | exact ih0 _ _ _
      | exact LeO.none _
      | refine LeO.ite ?_ ?_
      | refine LeO.bind ?_ (fun _ => ?_)
theorem laws_heldByteS.mono : ∀ a0 a1 k, LeO (laws_heldByteS.f k a0 a1) (laws_heldByteS.f (k + 1) a0 a1) := by
  intro a0 a1 k
  have ih0 := laws_heldByteS.mono_l k
  unfold laws_heldByteS.f
  repeat' first
      | (with_reducible exact ih0 _ _ _)
      | (with_reducible exact LeO.refl _)
      | (with_reducible exact LeO.none _)
      | (with_reducible refine LeO.ite ?_ ?_)
      | (with_reducible refine LeO.bind ?_ (fun _ => ?_))
      | exact ih0 _ _ _
      | exact LeO.none _
      | refine LeO.ite ?_ ?_
      | refine LeO.bind ?_ (fun _ => ?_)
set_option maxHeartbeats 8000000 in
set_option maxRecDepth 100000 in
theorem laws_heldByteS.calls (k : Nat) (A0 : Option Addr) (c0 : Nat) (l0 : List Int) (a1 : Int) (r : Int) (w : World) (hr0 : Kd.C (Kd.int .u8) w A0 l0.length l0) (hc0 : l0.length ≤ c0) (h : laws_heldByteS.f k l0 a1 = some r) :
    Calls Try.prog 19 #[.slice A0 l0.length c0, .int .i64 a1] w fun e w' => e = .returned (.int .i64 r) ∧ Drawn0 w w' := by
  have HR0 := Aside0.mk hr0
  have HC0 := Aside0.mk hc0
  clear hr0 hc0
  have H : (laws_heldByteS.l0 k l0 a1 0) = some r := h
  clear h
  have H' := Aside0.mk H
  clear H
  go_enter Try.func19, Try.ntmps19
  go_wp2
  go_loopg [1, 5] k (fun kq v1 v5 w' => ∃ (x1_1 : Int) (x5_1 : Int), v1 = .int .i64 x1_1 ∧ v5 = .int .i64 x5_1 ∧ Aside0 (laws_heldByteS.l0 kq l0 x1_1 x5_1 = some r) ∧ Aside0 (kq ≤ k) ∧ Drawn0 w w')
  case atStart => exact ⟨(a1), (0), (by first | rfl | (simp; done) | (simp [*]; done)), (by first | rfl | (simp; done) | (simp [*]; done)), H', ⟨Nat.le_refl _⟩, by repeat (first | exact Drawn0.refl _ | apply Drawn0.step)⟩
  case round =>
    clear H'
    try clear c1
    try clear p2
    obtain ⟨x1_1, x5_1, rfl, rfl, HA, HK1, ⟨m1, rfl⟩⟩ := hrel
    cases gk with
    | zero => exact absurd HA.out (by simp [laws_heldByteS.l0])
    | succ k1 =>
      have H := HA.out
      clear HA
      simp only [laws_heldByteS.l0] at H
      by_cases c3 : x5_1 < (l0.length : Int)
      · rw [if_pos c3] at H
        have c3b0 : decide (x5_1 < (l0.length : Int)) = true := decide_eq_true c3
        clear c3
        by_cases c4 : 0 ≤ x5_1
        · rw [if_pos c4] at H
          have c4b0 : decide (0 ≤ x5_1) = true := decide_eq_true c4
          clear c4
          by_cases c5 : (rd l0 x5_1) = ((x1_1) % 256)
          · rw [if_pos c5] at H
            have c5b0 : ((rd l0 x5_1) == ((x1_1) % 256)) = true := beq_iff_eq.mpr c5
            have c5b1 : ((rd l0 x5_1) != ((x1_1) % 256)) = false := bne_eq_false_iff_eq.mpr c5
            clear c5
            have H' := Aside0.mk H
            clear H
            have p122 : 0 ≤ (x5_1 : Int) := of_decide_eq_true (by first | (with_reducible assumption) | assumption)
            have q122 : x5_1 < (l0.length : Int) := of_decide_eq_true (by first | (with_reducible assumption) | assumption)
            obtain ⟨ad122, e122, hx122_0⟩ := Kd.at_int HR0.out x5_1 p122 q122
            cases e122
            replace p122 := eq_true p122
            replace q122 := eq_true q122
            go_wp2
            go_roundg k1
            case measure => have := HK1.out; omega
            case rel => exact ⟨(wrap64 (x1_1 + 1)), (wrap64 (x5_1 + 1)), (by first | rfl | (simp; done) | (simp [*]; done)), (by first | rfl | (simp; done) | (simp [*]; done)), H', ⟨by have := HK1.out; omega⟩, by repeat (first | exact Drawn0.refl _ | apply Drawn0.step)⟩
          · rw [if_neg c5] at H
            have c5b0 : ((rd l0 x5_1) == ((x1_1) % 256)) = false := beq_eq_false_iff_ne.mpr c5
            have c5b1 : ((rd l0 x5_1) != ((x1_1) % 256)) = true := bne_iff_ne.mpr c5
            obtain rfl := Option.some.inj H
            have p122 : 0 ≤ (x5_1 : Int) := of_decide_eq_true (by first | (with_reducible assumption) | assumption)
            have q122 : x5_1 < (l0.length : Int) := of_decide_eq_true (by first | (with_reducible assumption) | assumption)
            obtain ⟨ad122, e122, hx122_0⟩ := Kd.at_int HR0.out x5_1 p122 q122
            cases e122
            replace p122 := eq_true p122
            replace q122 := eq_true q122
            go_wp2
            go_ret
            exact ⟨by first | rfl | (simp; done) | (simp [*]; done), by repeat (first | exact Drawn0.refl _ | apply Drawn0.step)⟩
        · rw [if_neg c4] at H
          exact absurd H (by simp)
      · rw [if_neg c3] at H
        have c3b0 : decide (x5_1 < (l0.length : Int)) = false := decide_eq_false c3
        clear c3
        obtain rfl := Option.some.inj H
        go_wp2
        go_ret
        exact ⟨by first | rfl | (simp; done) | (simp [*]; done), by repeat (first | exact Drawn0.refl _ | apply Drawn0.step)⟩

/-! ### laws_heldWriteS: function 67 -/
def laws_heldWriteS.l0 : Nat → List (S62) → Int → Int → Option (Int)
  | 0, _, _, _ => none
  | k + 1, x0, x1, x5 => if x5 < (x0.length : Int) then (if 0 ≤ x5 then (if ((rd_T62 x0 x5).f0) = x1 then ((laws_heldByteS.f k ((rd_T62 x0 x5).f1) (wrap64 (x1 + 1))).bind fun t125 => (if t125 < 0 then (some (-1)) else (laws_heldWriteS.l0 k x0 t125 (wrap64 (x5 + 1))))) else (some (-1))) else (none)) else (some x1)
def laws_heldWriteS.f (k : Nat) (l0 : List (S62)) (a1 : Int) : Option (Int) := laws_heldWriteS.l0 k l0 a1 0
theorem laws_heldWriteS.mono_l : ∀ k, (∀ y0 y1 y2, LeO (laws_heldWriteS.l0 k y0 y1 y2) (laws_heldWriteS.l0 (k + 1) y0 y1 y2))
  | 0 => fun _ _ _ r h => by simp [laws_heldWriteS.l0] at h
  | k + 1 => by
    have ih0 := laws_heldWriteS.mono_l k
    · intro y0 y1 y2
      unfold laws_heldWriteS.l0
      repeat' first
      | (with_reducible exact ih0 _ _ _)
      | (with_reducible exact laws_heldByteS.mono _ _ _)
      | (with_reducible exact LeO.refl _)
      | (with_reducible exact LeO.none _)
      | (with_reducible refine LeO.ite ?_ ?_)
      | (with_reducible refine LeO.bind ?_ (fun _ => ?_))
      | exact ih0 _ _ _
      | exact laws_heldByteS.mono _ _ _
      | exact LeO.none _
      | refine LeO.ite ?_ ?_
      | refine LeO.bind ?_ (fun _ => ?_)
theorem laws_heldWriteS.mono : ∀ a0 a1 k, LeO (laws_heldWriteS.f k a0 a1) (laws_heldWriteS.f (k + 1) a0 a1) := by
  intro a0 a1 k
  have ih0 := laws_heldWriteS.mono_l k
  unfold laws_heldWriteS.f
  repeat' first
      | (with_reducible exact ih0 _ _ _)
      | (with_reducible exact laws_heldByteS.mono _ _ _)
      | (with_reducible exact LeO.refl _)
      | (with_reducible exact LeO.none _)
      | (with_reducible refine LeO.ite ?_ ?_)
      | (with_reducible refine LeO.bind ?_ (fun _ => ?_))
      | exact ih0 _ _ _
      | exact laws_heldByteS.mono _ _ _
      | exact LeO.none _
      | refine LeO.ite ?_ ?_
      | refine LeO.bind ?_ (fun _ => ?_)
set_option maxHeartbeats 8000000 in
set_option maxRecDepth 100000 in
theorem laws_heldWriteS.calls (k : Nat) (A0 : Option Addr) (c0 : Nat) (l0 : List (S62)) (a1 : Int) (r : Int) (w : World) (hr0 : Kd.C k62 w A0 l0.length l0) (hc0 : l0.length ≤ c0) (h : laws_heldWriteS.f k l0 a1 = some r) :
    Calls Try.prog 67 #[.slice A0 l0.length c0, .int .i64 a1] w fun e w' => e = .returned (.int .i64 r) ∧ Drawn0 w w' := by
  have HR0 := Aside0.mk hr0
  have HC0 := Aside0.mk hc0
  clear hr0 hc0
  have H : (laws_heldWriteS.l0 k l0 a1 0) = some r := h
  clear h
  have H' := Aside0.mk H
  clear H
  go_enter Try.func67, Try.ntmps67
  go_wp2
  go_loopg [1, 5] k (fun kq v1 v5 w' => ∃ (x1_1 : Int) (x5_1 : Int), v1 = .int .i64 x1_1 ∧ v5 = .int .i64 x5_1 ∧ Aside0 (laws_heldWriteS.l0 kq l0 x1_1 x5_1 = some r) ∧ Aside0 (kq ≤ k) ∧ Drawn0 w w')
  case atStart => exact ⟨(a1), (0), (by first | rfl | (simp; done) | (simp [*]; done)), (by first | rfl | (simp; done) | (simp [*]; done)), H', ⟨Nat.le_refl _⟩, by repeat (first | exact Drawn0.refl _ | apply Drawn0.step)⟩
  case round =>
    clear H'
    try clear p2
    obtain ⟨x1_1, x5_1, rfl, rfl, HA, HK1, ⟨m1, rfl⟩⟩ := hrel
    cases gk with
    | zero => exact absurd HA.out (by simp [laws_heldWriteS.l0])
    | succ k1 =>
      have H := HA.out
      clear HA
      simp only [laws_heldWriteS.l0] at H
      by_cases c3 : x5_1 < (l0.length : Int)
      · rw [if_pos c3] at H
        have c3b0 : decide (x5_1 < (l0.length : Int)) = true := decide_eq_true c3
        clear c3
        by_cases c4 : 0 ≤ x5_1
        · rw [if_pos c4] at H
          have c4b0 : decide (0 ≤ x5_1) = true := decide_eq_true c4
          clear c4
          by_cases c5 : ((rd_T62 l0 x5_1).f0) = x1_1
          · rw [if_pos c5] at H
            have c5b0 : (((rd_T62 l0 x5_1).f0) == x1_1) = true := beq_iff_eq.mpr c5
            have c5b1 : (((rd_T62 l0 x5_1).f0) != x1_1) = false := bne_eq_false_iff_eq.mpr c5
            clear c5
            replace H := Option.bind_eq_some_iff.mp H
            obtain ⟨t125, A60, H⟩ := H
            replace H : (if t125 < 0 then (some (-1)) else (laws_heldWriteS.l0 k1 l0 t125 (wrap64 (x5_1 + 1)))) = some r := H
            have A6 := Aside0.mk A60
            clear A60
            by_cases c7 : t125 < 0
            · rw [if_pos c7] at H
              have c7b0 : decide (t125 < 0) = true := decide_eq_true c7
              clear c7
              obtain rfl := Option.some.inj H
              have p123 : 0 ≤ (x5_1 : Int) := of_decide_eq_true (by first | (with_reducible assumption) | assumption)
              have q123 : x5_1 < (l0.length : Int) := of_decide_eq_true (by first | (with_reducible assumption) | assumption)
              obtain ⟨ad123, A123_1, c123_1, e123, hx123_0, hx123_1, hl123_1, hi123_1⟩ := at_T62 HR0.out x5_1 p123 q123
              cases e123
              have HR123_1 := Aside0.mk hi123_1
              have HC123_1 := Aside0.mk hl123_1
              clear hi123_1 hl123_1
              replace p123 := eq_true p123
              replace q123 := eq_true q123
              have p124 : 0 ≤ (x5_1 : Int) := of_decide_eq_true (by first | (with_reducible assumption) | assumption)
              have q124 : x5_1 < (l0.length : Int) := of_decide_eq_true (by first | (with_reducible assumption) | assumption)
              obtain ⟨ad124, A124_1, c124_1, e124, hx124_0, hx124_1, hl124_1, hi124_1⟩ := at_T62 HR0.out x5_1 p124 q124
              obtain rfl : ad123 = ad124 := (by injection e124)
              have HR124_1 := Aside0.mk hi124_1
              have HC124_1 := Aside0.mk hl124_1
              clear hi124_1 hl124_1
              replace p124 := eq_true p124
              replace q124 := eq_true q124
              have ea_ := Option.some.inj (hx123_1.symm.trans hx124_1)
              injection ea_ with ea_ en_ ec_
              subst ea_
              subst ec_
              clear en_
              go_wp2_with (first | ((with_reducible refine gate_callee (f := 19) rfl ?_); refine goesL_ (some 27) rfl rfl Try.func19 (by kernel_rfl) rfl #[.slice A123_1 ((rd_T62 l0 x5_1).f1).length c123_1, .int .i64 (wrap64 (x1_1 + 1))] rfl (by (try simp only [List.map_toArray, List.map_cons, List.map_nil]); first | done | rfl | (simp only [List.length_drop, List.length_take]; rfl)) ?_; (with_reducible refine (laws_heldByteS.calls k1 _ _ ((rd_T62 l0 x5_1).f1) (wrap64 (x1_1 + 1)) t125 _ ?side1 ?side2 A6.out).mono ?_); (case side1 => repeat (first | exact HR124_1.out | (with_reducible refine Kd.C_alloc ?_ _) | (with_reducible refine Kd.C_drewN ?_ _) | (with_reducible refine Kd.C_drew ?_))); (case side2 => exact HC124_1.out); rintro e w' ⟨rfl, ⟨nd, rfl⟩⟩; refine ⟨_, rfl, ?_⟩))
              go_ret
              exact ⟨by first | rfl | (simp; done) | (simp [*]; done), by repeat (first | exact Drawn0.refl _ | apply Drawn0.step)⟩
            · rw [if_neg c7] at H
              have c7b0 : decide (t125 < 0) = false := decide_eq_false c7
              clear c7
              have H' := Aside0.mk H
              clear H
              have p123 : 0 ≤ (x5_1 : Int) := of_decide_eq_true (by first | (with_reducible assumption) | assumption)
              have q123 : x5_1 < (l0.length : Int) := of_decide_eq_true (by first | (with_reducible assumption) | assumption)
              obtain ⟨ad123, A123_1, c123_1, e123, hx123_0, hx123_1, hl123_1, hi123_1⟩ := at_T62 HR0.out x5_1 p123 q123
              cases e123
              have HR123_1 := Aside0.mk hi123_1
              have HC123_1 := Aside0.mk hl123_1
              clear hi123_1 hl123_1
              replace p123 := eq_true p123
              replace q123 := eq_true q123
              have p124 : 0 ≤ (x5_1 : Int) := of_decide_eq_true (by first | (with_reducible assumption) | assumption)
              have q124 : x5_1 < (l0.length : Int) := of_decide_eq_true (by first | (with_reducible assumption) | assumption)
              obtain ⟨ad124, A124_1, c124_1, e124, hx124_0, hx124_1, hl124_1, hi124_1⟩ := at_T62 HR0.out x5_1 p124 q124
              obtain rfl : ad123 = ad124 := (by injection e124)
              have HR124_1 := Aside0.mk hi124_1
              have HC124_1 := Aside0.mk hl124_1
              clear hi124_1 hl124_1
              replace p124 := eq_true p124
              replace q124 := eq_true q124
              have ea_ := Option.some.inj (hx123_1.symm.trans hx124_1)
              injection ea_ with ea_ en_ ec_
              subst ea_
              subst ec_
              clear en_
              go_wp2_with (first | ((with_reducible refine gate_callee (f := 19) rfl ?_); refine goesL_ (some 27) rfl rfl Try.func19 (by kernel_rfl) rfl #[.slice A123_1 ((rd_T62 l0 x5_1).f1).length c123_1, .int .i64 (wrap64 (x1_1 + 1))] rfl (by (try simp only [List.map_toArray, List.map_cons, List.map_nil]); first | done | rfl | (simp only [List.length_drop, List.length_take]; rfl)) ?_; (with_reducible refine (laws_heldByteS.calls k1 _ _ ((rd_T62 l0 x5_1).f1) (wrap64 (x1_1 + 1)) t125 _ ?side1 ?side2 A6.out).mono ?_); (case side1 => repeat (first | exact HR124_1.out | (with_reducible refine Kd.C_alloc ?_ _) | (with_reducible refine Kd.C_drewN ?_ _) | (with_reducible refine Kd.C_drew ?_))); (case side2 => exact HC124_1.out); rintro e w' ⟨rfl, ⟨nd, rfl⟩⟩; refine ⟨_, rfl, ?_⟩))
              go_roundg k1
              case measure => have := HK1.out; omega
              case rel => exact ⟨(t125), (wrap64 (x5_1 + 1)), (by first | rfl | (simp; done) | (simp [*]; done)), (by first | rfl | (simp; done) | (simp [*]; done)), H', ⟨by have := HK1.out; omega⟩, by repeat (first | exact Drawn0.refl _ | apply Drawn0.step)⟩
          · rw [if_neg c5] at H
            have c5b0 : (((rd_T62 l0 x5_1).f0) == x1_1) = false := beq_eq_false_iff_ne.mpr c5
            have c5b1 : (((rd_T62 l0 x5_1).f0) != x1_1) = true := bne_iff_ne.mpr c5
            obtain rfl := Option.some.inj H
            have p123 : 0 ≤ (x5_1 : Int) := of_decide_eq_true (by first | (with_reducible assumption) | assumption)
            have q123 : x5_1 < (l0.length : Int) := of_decide_eq_true (by first | (with_reducible assumption) | assumption)
            obtain ⟨ad123, A123_1, c123_1, e123, hx123_0, hx123_1, hl123_1, hi123_1⟩ := at_T62 HR0.out x5_1 p123 q123
            cases e123
            have HR123_1 := Aside0.mk hi123_1
            have HC123_1 := Aside0.mk hl123_1
            clear hi123_1 hl123_1
            replace p123 := eq_true p123
            replace q123 := eq_true q123
            go_wp2
            go_ret
            exact ⟨by first | rfl | (simp; done) | (simp [*]; done), by repeat (first | exact Drawn0.refl _ | apply Drawn0.step)⟩
        · rw [if_neg c4] at H
          exact absurd H (by simp)
      · rw [if_neg c3] at H
        have c3b0 : decide (x5_1 < (l0.length : Int)) = false := decide_eq_false c3
        clear c3
        obtain rfl := Option.some.inj H
        go_wp2
        go_ret
        exact ⟨by first | rfl | (simp; done) | (simp [*]; done), by repeat (first | exact Drawn0.refl _ | apply Drawn0.step)⟩

/-! ### laws_heldDisk: function 24 -/
def laws_heldDisk.f (k : Nat) (l0_0 : List Int) (l0_1 : List (S62)) (a1 : Int) : Option (Int) := (laws_heldByteS.f k l0_0 a1).bind fun t127 => (if t127 < 0 then (some (-1)) else ((laws_heldWriteS.f k l0_1 t127).bind fun t128 => (if t128 < 0 then (some (-1)) else (some t128))))
theorem laws_heldDisk.mono : ∀ a0 a1 a2 k, LeO (laws_heldDisk.f k a0 a1 a2) (laws_heldDisk.f (k + 1) a0 a1 a2) := by
  intro a0 a1 a2 k
  unfold laws_heldDisk.f
  repeat' first
      | (with_reducible exact laws_heldByteS.mono _ _ _)
      | (with_reducible exact laws_heldWriteS.mono _ _ _)
      | (with_reducible exact LeO.refl _)
      | (with_reducible exact LeO.none _)
      | (with_reducible refine LeO.ite ?_ ?_)
      | (with_reducible refine LeO.bind ?_ (fun _ => ?_))
      | exact laws_heldByteS.mono _ _ _
      | exact laws_heldWriteS.mono _ _ _
      | exact LeO.none _
      | refine LeO.ite ?_ ?_
      | refine LeO.bind ?_ (fun _ => ?_)
set_option maxHeartbeats 8000000 in
set_option maxRecDepth 100000 in
theorem laws_heldDisk.calls (k : Nat) (A0_0 : Option Addr) (c0_0 : Nat) (l0_0 : List Int) (A0_1 : Option Addr) (c0_1 : Nat) (l0_1 : List (S62)) (a1 : Int) (r : Int) (w : World) (hr0_0 : Kd.C (Kd.int .u8) w A0_0 l0_0.length l0_0) (hc0_0 : l0_0.length ≤ c0_0) (hr0_1 : Kd.C k62 w A0_1 l0_1.length l0_1) (hc0_1 : l0_1.length ≤ c0_1) (h : laws_heldDisk.f k l0_0 l0_1 a1 = some r) :
    Calls Try.prog 24 #[.agg #[.slice A0_0 l0_0.length c0_0, .slice A0_1 l0_1.length c0_1], .int .i64 a1] w fun e w' => e = .returned (.int .i64 r) ∧ Below w.heap.size w w' := by
  have hu29 := Try.underlying29
  have HR0_0 := Aside0.mk hr0_0
  have HC0_0 := Aside0.mk hc0_0
  clear hr0_0 hc0_0
  have HR0_1 := Aside0.mk hr0_1
  have HC0_1 := Aside0.mk hc0_1
  clear hr0_1 hc0_1
  have HB := Aside0.mk (Below.refl w.heap.size w)
  have H : ((laws_heldByteS.f k l0_0 a1).bind fun t127 => (if t127 < 0 then (some (-1)) else ((laws_heldWriteS.f k l0_1 t127).bind fun t128 => (if t128 < 0 then (some (-1)) else (some t128))))) = some r := h
  clear h
  replace H := Option.bind_eq_some_iff.mp H
  obtain ⟨t127, A30, H⟩ := H
  replace H : (if t127 < 0 then (some (-1)) else ((laws_heldWriteS.f k l0_1 t127).bind fun t128 => (if t128 < 0 then (some (-1)) else (some t128)))) = some r := H
  have A3 := Aside0.mk A30
  clear A30
  by_cases c4 : t127 < 0
  · rw [if_pos c4] at H
    have c4b0 : decide (t127 < 0) = true := decide_eq_true c4
    clear c4
    obtain rfl := Option.some.inj H
    go_enter Try.func24, Try.ntmps24
    go_wp2_with (first | ((with_reducible refine gate_dst (N := 2) rfl ?_); refine box_event ?hg (N := 2) ?hd (cs := #[.slice A0_0 l0_0.length c0_0, .slice A0_1 l0_1.length c0_1]) (t := 29) ?hr ?_; (case hd => rfl); (case hg => rfl); (case hr => first | (go_simp; done) | (go_simp; rfl)); intro gb126 hg w5 hbox hb; have n0_ := Aside0.mk (below_step (by repeat (first | (with_reducible first | exact HB.out | apply below_alloc | apply pw_below_drewN | apply below_drew1) | exact HB.out)) hb); have n1_ := Aside0.mk (hbox); have n2_ := Aside0.mk ((by rw [hg]; exact (below_size (by repeat (first | (with_reducible first | exact HB.out | apply below_alloc | apply pw_below_drewN | apply below_drew1) | exact HB.out))) : w.heap.size ≤ gb126)); have n3_ := Aside0.mk ((by rw [hg]; exact (below_size (by repeat (first | (with_reducible first | exact HB.out | apply below_alloc | apply pw_below_drewN | apply below_drew1) | exact HB.out))) : w.heap.size ≤ gb126)); clear HB; have HB := n0_; have BK126 := n1_; have GW126 := n2_; have GE126 := n3_; clear n0_ n1_ n2_ n3_; clear hb hbox hg; have hcz6_0 : w5.cell? ⟨gb126, 0, none⟩ = some (.slice A0_0 l0_0.length c0_0) := (blk_cell BK126.out 0).trans rfl; have hcz6_1 : w5.cell? ⟨gb126, 1, none⟩ = some (.slice A0_1 l0_1.length c0_1) := (blk_cell BK126.out 1).trans rfl; have hfz6_0 := blk_frozen BK126.out 0; have hfz6_1 := blk_frozen BK126.out 1) | ((with_reducible refine gate_callee (f := 19) rfl ?_); refine goesL_ (some 8) rfl rfl Try.func19 (by kernel_rfl) rfl #[.slice A0_0 l0_0.length c0_0, .int .i64 a1] rfl (by (try simp only [List.map_toArray, List.map_cons, List.map_nil]); first | done | rfl | (simp only [List.length_drop, List.length_take]; rfl)) ?_; (with_reducible refine (laws_heldByteS.calls k _ _ l0_0 a1 t127 _ ?side1 ?side2 A3.out).mono ?_); (case side1 => repeat (first | exact (Kd.C_below HR0_0.out HB.out) | (with_reducible refine Kd.C_alloc ?_ _) | (with_reducible refine Kd.C_drewN ?_ _) | (with_reducible refine Kd.C_drew ?_))); (case side2 => exact HC0_0.out); rintro e w' ⟨rfl, ⟨nd, rfl⟩⟩; refine ⟨_, rfl, ?_⟩))
    go_ret
    exact ⟨by first | rfl | (simp [errW_none, errW_some] <;> rfl) | (simp [*, errW_none, errW_some] <;> rfl), by repeat (first | (with_reducible first | exact HB.out | apply below_alloc | apply pw_below_drewN | apply below_drew1 | refine below_set ?_ GE126.out) | exact HB.out)⟩
  · rw [if_neg c4] at H
    have c4b0 : decide (t127 < 0) = false := decide_eq_false c4
    clear c4
    replace H := Option.bind_eq_some_iff.mp H
    obtain ⟨t128, A70, H⟩ := H
    replace H : (if t128 < 0 then (some (-1)) else (some t128)) = some r := H
    have A7 := Aside0.mk A70
    clear A70
    by_cases c8 : t128 < 0
    · rw [if_pos c8] at H
      have c8b0 : decide (t128 < 0) = true := decide_eq_true c8
      clear c8
      obtain rfl := Option.some.inj H
      go_enter Try.func24, Try.ntmps24
      go_wp2_with (first | ((with_reducible refine gate_dst (N := 2) rfl ?_); refine box_event ?hg (N := 2) ?hd (cs := #[.slice A0_0 l0_0.length c0_0, .slice A0_1 l0_1.length c0_1]) (t := 29) ?hr ?_; (case hd => rfl); (case hg => rfl); (case hr => first | (go_simp; done) | (go_simp; rfl)); intro gb126 hg w9 hbox hb; have n0_ := Aside0.mk (below_step (by repeat (first | (with_reducible first | exact HB.out | apply below_alloc | apply pw_below_drewN | apply below_drew1) | exact HB.out)) hb); have n1_ := Aside0.mk (hbox); have n2_ := Aside0.mk ((by rw [hg]; exact (below_size (by repeat (first | (with_reducible first | exact HB.out | apply below_alloc | apply pw_below_drewN | apply below_drew1) | exact HB.out))) : w.heap.size ≤ gb126)); have n3_ := Aside0.mk ((by rw [hg]; exact (below_size (by repeat (first | (with_reducible first | exact HB.out | apply below_alloc | apply pw_below_drewN | apply below_drew1) | exact HB.out))) : w.heap.size ≤ gb126)); clear HB; have HB := n0_; have BK126 := n1_; have GW126 := n2_; have GE126 := n3_; clear n0_ n1_ n2_ n3_; clear hb hbox hg; have hcz10_0 : w9.cell? ⟨gb126, 0, none⟩ = some (.slice A0_0 l0_0.length c0_0) := (blk_cell BK126.out 0).trans rfl; have hcz10_1 : w9.cell? ⟨gb126, 1, none⟩ = some (.slice A0_1 l0_1.length c0_1) := (blk_cell BK126.out 1).trans rfl; have hfz10_0 := blk_frozen BK126.out 0; have hfz10_1 := blk_frozen BK126.out 1) | ((with_reducible refine gate_callee (f := 19) rfl ?_); refine goesL_ (some 8) rfl rfl Try.func19 (by kernel_rfl) rfl #[.slice A0_0 l0_0.length c0_0, .int .i64 a1] rfl (by (try simp only [List.map_toArray, List.map_cons, List.map_nil]); first | done | rfl | (simp only [List.length_drop, List.length_take]; rfl)) ?_; (with_reducible refine (laws_heldByteS.calls k _ _ l0_0 a1 t127 _ ?side1 ?side2 A3.out).mono ?_); (case side1 => repeat (first | exact (Kd.C_below HR0_0.out HB.out) | (with_reducible refine Kd.C_alloc ?_ _) | (with_reducible refine Kd.C_drewN ?_ _) | (with_reducible refine Kd.C_drew ?_))); (case side2 => exact HC0_0.out); rintro e w' ⟨rfl, ⟨nd, rfl⟩⟩; refine ⟨_, rfl, ?_⟩) | ((with_reducible refine gate_callee (f := 67) rfl ?_); refine goesL_ (some 14) rfl rfl Try.func67 (by kernel_rfl) rfl #[.slice A0_1 l0_1.length c0_1, .int .i64 t127] rfl (by (try simp only [List.map_toArray, List.map_cons, List.map_nil]); first | done | rfl | (simp only [List.length_drop, List.length_take]; rfl)) ?_; (with_reducible refine (laws_heldWriteS.calls k _ _ l0_1 t127 t128 _ ?side1 ?side2 A7.out).mono ?_); (case side1 => repeat (first | exact (Kd.C_below HR0_1.out (by repeat (first | (with_reducible first | exact HB.out | apply below_alloc | apply pw_below_drewN | apply below_drew1 | refine below_set ?_ GE126.out) | exact HB.out))) | (with_reducible refine Kd.C_alloc ?_ _) | (with_reducible refine Kd.C_drewN ?_ _) | (with_reducible refine Kd.C_drew ?_))); (case side2 => exact HC0_1.out); rintro e w' ⟨rfl, ⟨nd, rfl⟩⟩; refine ⟨_, rfl, ?_⟩))
      go_ret
      exact ⟨by first | rfl | (simp [errW_none, errW_some] <;> rfl) | (simp [*, errW_none, errW_some] <;> rfl), by repeat (first | (with_reducible first | exact HB.out | apply below_alloc | apply pw_below_drewN | apply below_drew1 | refine below_set ?_ GE126.out) | exact HB.out)⟩
    · rw [if_neg c8] at H
      have c8b0 : decide (t128 < 0) = false := decide_eq_false c8
      clear c8
      obtain rfl := Option.some.inj H
      go_enter Try.func24, Try.ntmps24
      go_wp2_with (first | ((with_reducible refine gate_dst (N := 2) rfl ?_); refine box_event ?hg (N := 2) ?hd (cs := #[.slice A0_0 l0_0.length c0_0, .slice A0_1 l0_1.length c0_1]) (t := 29) ?hr ?_; (case hd => rfl); (case hg => rfl); (case hr => first | (go_simp; done) | (go_simp; rfl)); intro gb126 hg w11 hbox hb; have n0_ := Aside0.mk (below_step (by repeat (first | (with_reducible first | exact HB.out | apply below_alloc | apply pw_below_drewN | apply below_drew1) | exact HB.out)) hb); have n1_ := Aside0.mk (hbox); have n2_ := Aside0.mk ((by rw [hg]; exact (below_size (by repeat (first | (with_reducible first | exact HB.out | apply below_alloc | apply pw_below_drewN | apply below_drew1) | exact HB.out))) : w.heap.size ≤ gb126)); have n3_ := Aside0.mk ((by rw [hg]; exact (below_size (by repeat (first | (with_reducible first | exact HB.out | apply below_alloc | apply pw_below_drewN | apply below_drew1) | exact HB.out))) : w.heap.size ≤ gb126)); clear HB; have HB := n0_; have BK126 := n1_; have GW126 := n2_; have GE126 := n3_; clear n0_ n1_ n2_ n3_; clear hb hbox hg; have hcz12_0 : w11.cell? ⟨gb126, 0, none⟩ = some (.slice A0_0 l0_0.length c0_0) := (blk_cell BK126.out 0).trans rfl; have hcz12_1 : w11.cell? ⟨gb126, 1, none⟩ = some (.slice A0_1 l0_1.length c0_1) := (blk_cell BK126.out 1).trans rfl; have hfz12_0 := blk_frozen BK126.out 0; have hfz12_1 := blk_frozen BK126.out 1) | ((with_reducible refine gate_callee (f := 19) rfl ?_); refine goesL_ (some 8) rfl rfl Try.func19 (by kernel_rfl) rfl #[.slice A0_0 l0_0.length c0_0, .int .i64 a1] rfl (by (try simp only [List.map_toArray, List.map_cons, List.map_nil]); first | done | rfl | (simp only [List.length_drop, List.length_take]; rfl)) ?_; (with_reducible refine (laws_heldByteS.calls k _ _ l0_0 a1 t127 _ ?side1 ?side2 A3.out).mono ?_); (case side1 => repeat (first | exact (Kd.C_below HR0_0.out HB.out) | (with_reducible refine Kd.C_alloc ?_ _) | (with_reducible refine Kd.C_drewN ?_ _) | (with_reducible refine Kd.C_drew ?_))); (case side2 => exact HC0_0.out); rintro e w' ⟨rfl, ⟨nd, rfl⟩⟩; refine ⟨_, rfl, ?_⟩) | ((with_reducible refine gate_callee (f := 67) rfl ?_); refine goesL_ (some 14) rfl rfl Try.func67 (by kernel_rfl) rfl #[.slice A0_1 l0_1.length c0_1, .int .i64 t127] rfl (by (try simp only [List.map_toArray, List.map_cons, List.map_nil]); first | done | rfl | (simp only [List.length_drop, List.length_take]; rfl)) ?_; (with_reducible refine (laws_heldWriteS.calls k _ _ l0_1 t127 t128 _ ?side1 ?side2 A7.out).mono ?_); (case side1 => repeat (first | exact (Kd.C_below HR0_1.out (by repeat (first | (with_reducible first | exact HB.out | apply below_alloc | apply pw_below_drewN | apply below_drew1 | refine below_set ?_ GE126.out) | exact HB.out))) | (with_reducible refine Kd.C_alloc ?_ _) | (with_reducible refine Kd.C_drewN ?_ _) | (with_reducible refine Kd.C_drew ?_))); (case side2 => exact HC0_1.out); rintro e w' ⟨rfl, ⟨nd, rfl⟩⟩; refine ⟨_, rfl, ?_⟩))
      go_ret
      exact ⟨by first | rfl | (simp [errW_none, errW_some] <;> rfl) | (simp [*, errW_none, errW_some] <;> rfl), by repeat (first | (with_reducible first | exact HB.out | apply below_alloc | apply pw_below_drewN | apply below_drew1 | refine below_set ?_ GE126.out) | exact HB.out)⟩

/-! ### laws_FnExactNewDisk: function 4 -/
section
open Go.Proofs.Ytdhjhadcadcceaa.Hld
def laws_FnExactNewDisk.f (k : Nat) (a0 : Int) : Option Bool := (spec_NewDisk.f a0).bind fun b1 => ((impl_NewDisk.f a0).bind fun b2 => ((laws_eqDisk.f k b2.1 b2.2 b1.1 b1.2).bind fun t14 => (if t14 = true then ((laws_markDisk.f k b2.1 b2.2 1).bind fun b4 => ((laws_heldDisk.f k b4.2.1 b4.2.2 1).bind fun t21 => (if t21 < 0 then none else (if t21 = b4.1 then ((impl_NewDisk.f a0).bind fun b8 => ((laws_eqDisk.f k b8.1 b8.2 b1.1 b1.2).bind fun t31 => (if t31 = true then ((laws_heldDisk.f k b4.2.1 b4.2.2 1).bind fun t35 => (if t35 < 0 then none else (if t35 = b4.1 then (some true) else none))) else none))) else none)))) else none)))
theorem laws_FnExactNewDisk.mono : ∀ a0_ k, LeO (laws_FnExactNewDisk.f k a0_) (laws_FnExactNewDisk.f (k + 1) a0_) := by
  intro a0_ k
  unfold laws_FnExactNewDisk.f
  repeat' first
    | (with_reducible exact LeO.refl _)
    | (with_reducible exact LeO.none _)
    | (with_reducible refine LeO.ite ?_ ?_)
    | (with_reducible refine LeO.bind ?_ (fun _ => ?_))
    | exact laws_eqDisk.mono _ _ _ _ _
    | exact laws_heldDisk.mono _ _ _ _
    | exact laws_markDisk.mono _ _ _ _
set_option maxHeartbeats 16000000 in
set_option maxRecDepth 100000 in
theorem laws_FnExactNewDisk.calls (k : Nat) (a0 : Int) (r : Bool) (w : World)  (h : laws_FnExactNewDisk.f k a0 = some r) (hrt : Aside0 (r = true)) :
    Calls Try.prog 4 #[.int .i64 a0] w fun e w' => e = .returned (.bool r) ∧ Below w.heap.size w w' := by
  have hu29 := Try.underlying29
  obtain rfl := hrt.out
  clear hrt
  have HB_0 := Aside0.mk (Below.refl w.heap.size w)
  have H := h
  clear h
  unfold laws_FnExactNewDisk.f at H
  obtain ⟨⟨x9, y9⟩, A1_, H⟩ := Option.bind_eq_some_iff.mp H
  (try dsimp only at H)
  have A1 := Aside0.mk A1_
  clear A1_
  obtain ⟨⟨x11, y11⟩, A2_, H⟩ := Option.bind_eq_some_iff.mp H
  (try dsimp only at H)
  have A2 := Aside0.mk A2_
  clear A2_
  obtain ⟨t14, A3_, H⟩ := Option.bind_eq_some_iff.mp H
  (try dsimp only at H)
  have A3 := Aside0.mk A3_
  clear A3_
  by_cases ct : t14 = true
  case neg => rw [if_neg ct] at H; exact absurd H (by simp)
  rw [if_pos ct] at H
  subst ct
  obtain ⟨⟨t18, x18, y18⟩, A4_, H⟩ := Option.bind_eq_some_iff.mp H
  (try dsimp only at H)
  have A4 := Aside0.mk A4_
  clear A4_
  obtain ⟨t21, A5_, H⟩ := Option.bind_eq_some_iff.mp H
  (try dsimp only at H)
  have A5 := Aside0.mk A5_
  clear A5_
  by_cases cn6 : t21 < 0
  case pos => rw [if_pos cn6] at H; exact absurd H (by simp)
  rw [if_neg cn6] at H
  have c6b0 : decide (t21 < 0) = false := decide_eq_false cn6
  clear cn6
  by_cases cq7 : t21 = t18
  case neg => rw [if_neg cq7] at H; exact absurd H (by simp)
  rw [if_pos cq7] at H
  have c7b0 : (t21 == t18) = true := beq_iff_eq.mpr cq7
  have c7b1 : (t21 != t18) = false := bne_eq_false_iff_eq.mpr cq7
  clear cq7
  obtain ⟨⟨x28, y28⟩, A8_, H⟩ := Option.bind_eq_some_iff.mp H
  (try dsimp only at H)
  have A8 := Aside0.mk A8_
  clear A8_
  obtain ⟨t31, A9_, H⟩ := Option.bind_eq_some_iff.mp H
  (try dsimp only at H)
  have A9 := Aside0.mk A9_
  clear A9_
  by_cases ct : t31 = true
  case neg => rw [if_neg ct] at H; exact absurd H (by simp)
  rw [if_pos ct] at H
  subst ct
  obtain ⟨t35, A10_, H⟩ := Option.bind_eq_some_iff.mp H
  (try dsimp only at H)
  have A10 := Aside0.mk A10_
  clear A10_
  by_cases cn11 : t35 < 0
  case pos => rw [if_pos cn11] at H; exact absurd H (by simp)
  rw [if_neg cn11] at H
  have c11b0 : decide (t35 < 0) = false := decide_eq_false cn11
  clear cn11
  by_cases cq12 : t35 = t18
  case neg => rw [if_neg cq12] at H; exact absurd H (by simp)
  rw [if_pos cq12] at H
  have c12b0 : (t35 == t18) = true := beq_iff_eq.mpr cq12
  have c12b1 : (t35 != t18) = false := bne_eq_false_iff_eq.mpr cq12
  clear cq12
  clear H
  go_enter Try.func4, Try.ntmps4
  try go_wp2_with (first
      | ((with_reducible refine gate_callee (f := 20) rfl ?_); refine goesL_ (some 9) rfl rfl Try.func20 (by kernel_rfl) rfl #[.int .i64 a0] rfl (by (try simp only [List.map_toArray, List.map_cons, List.map_nil]); first | done | rfl) ?_; (with_reducible refine (spec_NewDisk.calls a0 x9 y9 _  A1.out).mono ?_); rintro e w1 ⟨v_, u_, rfl, ho0, ho1, hb⟩; have htw := Two.of (ok' := fun _ => True) rfl ho0 (Kd.S_mono ho1 (fun _ h_ => ⟨trivial, h_⟩)); obtain ⟨U9, cu9, V9, cv9, rfl, rfl⟩ := Two.slices htw; have hrw := Two.held (b := w.heap.size) htw (Below.size HB_0.out); refine ⟨_, rfl, ?_⟩; have Fo9_1 := Aside0.mk hrw; clear hrw; clear ho0 ho1 htw; have HB_1 := Aside0.mk (below_step HB_0.out hb); have Z_1 := Aside0.mk (show w.heap.size ≤ w1.heap.size from hb.size); clear HB_0 hb)
      | ((with_reducible refine gate_dst (N := 3) rfl ?_); refine box_event ?hg (N := 3) ?hd (cs := #[.slice none 0 0, .slice none 0 0]) (t := 29) ?hr ?_; (case hd => rfl); (case hg => rfl); (case hr => first | (go_simp; done) | (go_simp; rfl)); intro gb3 hgb w2 hbox hb; have G3 := Aside0.mk (show w1.heap.size ≤ gb3 ∧ gb3 < w2.heap.size from ⟨by omega, blk_lt hbox⟩); have Fb3_2 := Aside0.mk (Held.blk hbox); have Fo9_2 := Aside0.mk (Fo9_1.out.below hb); have HB_2 := Aside0.mk (below_step HB_1.out hb); have Z_2 := Aside0.mk (show w1.heap.size ≤ w2.heap.size from hb.size); clear Fo9_1 HB_1 hb hbox hgb; have z3_0_2 : w2.cell? ⟨gb3, 0, none⟩ = some (.slice none 0 0) := (blk_cell (show w2.heap[gb3]? = some (.cells #[.slice none 0 0, .slice none 0 0] 29 (0, 0)) from Fb3_2.out.now) 0).trans rfl; have z3_1_2 : w2.cell? ⟨gb3, 1, none⟩ = some (.slice none 0 0) := (blk_cell (show w2.heap[gb3]? = some (.cells #[.slice none 0 0, .slice none 0 0] 29 (0, 0)) from Fb3_2.out.now) 1).trans rfl)
      | ((with_reducible refine gate_store (t := 29) (p := 3) rfl ?_); refine Box.store_cells (P := Try.prog) ?hg (t := 29) (p := .tmp 3) (x := .tmp 9) ?ho ?hn gb3 0 ?ha (u := .agg #[.slice U9 x9.length cu9, .slice V9 y9.length cv9]) ?hx [.slice U9 x9.length cu9, .slice V9 y9.length cv9] rfl (by kernel_rfl) (by intro q_ hq_; simp only [List.mem_cons, List.not_mem_nil, or_false] at hq_; rcases hq_ with rfl | rfl <;> rfl) #[.slice none 0 0, .slice none 0 0] #[.slice U9 x9.length cu9, .slice V9 y9.length cv9] (e := 29) (show w2.heap[gb3]? = some (.cells #[.slice none 0 0, .slice none 0 0] 29 (0, 0)) from Fb3_2.out.now) (by show 0 + 2 ≤ 2; decide) rfl ?_; (case ho => rfl); (case hg => rfl); (case hn => rfl); (case ha => first | rfl | (go_simp; done) | (go_simp; rfl)); (case hx => first | rfl | (go_simp; done) | (go_simp; rfl)); intro w3 hbox hgr; have n_ := Aside0.mk (Held.blk hbox); have Fo9_3 := Aside0.mk (Fo9_2.out.grown hgr (by have := Z_1.out; have := Z_2.out; have := G3.out; omega)); have HB_3 := Aside0.mk (Box.below_grown HB_2.out hgr (by have hh_ := (Below.size HB_2.out); have := Z_1.out; have := Z_2.out; have := G3.out; omega)); have Z_3 := Aside0.mk (show w2.heap.size ≤ w3.heap.size from grown_top hgr); clear Fo9_2 Fb3_2 HB_2 z3_0_2 z3_1_2 hbox hgr; have Fb3_3 := n_; clear n_; have z3_0_3 : w3.cell? ⟨gb3, 0, none⟩ = some (.slice U9 x9.length cu9) := (blk_cell (show w3.heap[gb3]? = some (.cells #[.slice U9 x9.length cu9, .slice V9 y9.length cv9] 29 (0, 0)) from Fb3_3.out.now) 0).trans rfl; have z3_1_3 : w3.cell? ⟨gb3, 1, none⟩ = some (.slice V9 y9.length cv9) := (blk_cell (show w3.heap[gb3]? = some (.cells #[.slice U9 x9.length cu9, .slice V9 y9.length cv9] 29 (0, 0)) from Fb3_3.out.now) 1).trans rfl)
      | ((with_reducible refine gate_callee (f := 21) rfl ?_); refine goesL_ (some 11) rfl rfl Try.func21 (by kernel_rfl) rfl #[.int .i64 a0] rfl (by (try simp only [List.map_toArray, List.map_cons, List.map_nil]); first | done | rfl) ?_; (with_reducible refine (impl_NewDisk.calls a0 x11 y11 _  A2.out).mono ?_); rintro e w4 ⟨v_, u_, rfl, ho0, ho1, hb⟩; have htw := Two.of (ok' := fun _ => True) rfl ho0 (Kd.S_mono ho1 (fun _ h_ => ⟨trivial, h_⟩)); obtain ⟨U11, cu11, V11, cv11, rfl, rfl⟩ := Two.slices htw; have hrw := Two.held (b := w.heap.size) htw (Below.size HB_3.out); refine ⟨_, rfl, ?_⟩; have Fo11_4 := Aside0.mk hrw; clear hrw; clear ho0 ho1 htw; have Fo9_4 := Aside0.mk (Fo9_3.out.below hb); have Fb3_4 := Aside0.mk (Fb3_3.out.below hb); have HB_4 := Aside0.mk (below_step HB_3.out hb); have Z_4 := Aside0.mk (show w3.heap.size ≤ w4.heap.size from hb.size); clear Fo9_3 Fb3_3 HB_3 z3_0_3 z3_1_3 hb; have z3_0_4 : w4.cell? ⟨gb3, 0, none⟩ = some (.slice U9 x9.length cu9) := (blk_cell (show w4.heap[gb3]? = some (.cells #[.slice U9 x9.length cu9, .slice V9 y9.length cv9] 29 (0, 0)) from Fb3_4.out.now) 0).trans rfl; have z3_1_4 : w4.cell? ⟨gb3, 1, none⟩ = some (.slice V9 y9.length cv9) := (blk_cell (show w4.heap[gb3]? = some (.cells #[.slice U9 x9.length cu9, .slice V9 y9.length cv9] 29 (0, 0)) from Fb3_4.out.now) 1).trans rfl)
      | ((with_reducible refine gate_dst (N := 4) rfl ?_); refine box_event ?hg (N := 4) ?hd (cs := #[.slice none 0 0, .slice none 0 0]) (t := 29) ?hr ?_; (case hd => rfl); (case hg => rfl); (case hr => first | (go_simp; done) | (go_simp; rfl)); intro gb4 hgb w5 hbox hb; have G4 := Aside0.mk (show w4.heap.size ≤ gb4 ∧ gb4 < w5.heap.size from ⟨by omega, blk_lt hbox⟩); have Fb4_5 := Aside0.mk (Held.blk hbox); have Fo9_5 := Aside0.mk (Fo9_4.out.below hb); have Fb3_5 := Aside0.mk (Fb3_4.out.below hb); have Fo11_5 := Aside0.mk (Fo11_4.out.below hb); have HB_5 := Aside0.mk (below_step HB_4.out hb); have Z_5 := Aside0.mk (show w4.heap.size ≤ w5.heap.size from hb.size); clear Fo9_4 Fb3_4 Fo11_4 HB_4 z3_0_4 z3_1_4 hb hbox hgb; have z3_0_5 : w5.cell? ⟨gb3, 0, none⟩ = some (.slice U9 x9.length cu9) := (blk_cell (show w5.heap[gb3]? = some (.cells #[.slice U9 x9.length cu9, .slice V9 y9.length cv9] 29 (0, 0)) from Fb3_5.out.now) 0).trans rfl; have z3_1_5 : w5.cell? ⟨gb3, 1, none⟩ = some (.slice V9 y9.length cv9) := (blk_cell (show w5.heap[gb3]? = some (.cells #[.slice U9 x9.length cu9, .slice V9 y9.length cv9] 29 (0, 0)) from Fb3_5.out.now) 1).trans rfl; have z4_0_5 : w5.cell? ⟨gb4, 0, none⟩ = some (.slice none 0 0) := (blk_cell (show w5.heap[gb4]? = some (.cells #[.slice none 0 0, .slice none 0 0] 29 (0, 0)) from Fb4_5.out.now) 0).trans rfl; have z4_1_5 : w5.cell? ⟨gb4, 1, none⟩ = some (.slice none 0 0) := (blk_cell (show w5.heap[gb4]? = some (.cells #[.slice none 0 0, .slice none 0 0] 29 (0, 0)) from Fb4_5.out.now) 1).trans rfl)
      | ((with_reducible refine gate_store (t := 29) (p := 4) rfl ?_); refine Box.store_cells (P := Try.prog) ?hg (t := 29) (p := .tmp 4) (x := .tmp 11) ?ho ?hn gb4 0 ?ha (u := .agg #[.slice U11 x11.length cu11, .slice V11 y11.length cv11]) ?hx [.slice U11 x11.length cu11, .slice V11 y11.length cv11] rfl (by kernel_rfl) (by intro q_ hq_; simp only [List.mem_cons, List.not_mem_nil, or_false] at hq_; rcases hq_ with rfl | rfl <;> rfl) #[.slice none 0 0, .slice none 0 0] #[.slice U11 x11.length cu11, .slice V11 y11.length cv11] (e := 29) (show w5.heap[gb4]? = some (.cells #[.slice none 0 0, .slice none 0 0] 29 (0, 0)) from Fb4_5.out.now) (by show 0 + 2 ≤ 2; decide) rfl ?_; (case ho => rfl); (case hg => rfl); (case hn => rfl); (case ha => first | rfl | (go_simp; done) | (go_simp; rfl)); (case hx => first | rfl | (go_simp; done) | (go_simp; rfl)); intro w6 hbox hgr; have n_ := Aside0.mk (Held.blk hbox); have Fo9_6 := Aside0.mk (Fo9_5.out.grown hgr (by have := Z_1.out; have := Z_2.out; have := Z_3.out; have := Z_4.out; have := Z_5.out; have := G3.out; have := G4.out; omega)); have Fb3_6 := Aside0.mk (Fb3_5.out.grown hgr (by have := Z_1.out; have := Z_2.out; have := Z_3.out; have := Z_4.out; have := Z_5.out; have := G3.out; have := G4.out; omega)); have Fo11_6 := Aside0.mk (Fo11_5.out.grown hgr (by have := Z_1.out; have := Z_2.out; have := Z_3.out; have := Z_4.out; have := Z_5.out; have := G3.out; have := G4.out; omega)); have HB_6 := Aside0.mk (Box.below_grown HB_5.out hgr (by have hh_ := (Below.size HB_5.out); have := Z_1.out; have := Z_2.out; have := Z_3.out; have := Z_4.out; have := Z_5.out; have := G3.out; have := G4.out; omega)); have Z_6 := Aside0.mk (show w5.heap.size ≤ w6.heap.size from grown_top hgr); clear Fo9_5 Fb3_5 Fo11_5 Fb4_5 HB_5 z3_0_5 z3_1_5 z4_0_5 z4_1_5 hbox hgr; have Fb4_6 := n_; clear n_; have z3_0_6 : w6.cell? ⟨gb3, 0, none⟩ = some (.slice U9 x9.length cu9) := (blk_cell (show w6.heap[gb3]? = some (.cells #[.slice U9 x9.length cu9, .slice V9 y9.length cv9] 29 (0, 0)) from Fb3_6.out.now) 0).trans rfl; have z3_1_6 : w6.cell? ⟨gb3, 1, none⟩ = some (.slice V9 y9.length cv9) := (blk_cell (show w6.heap[gb3]? = some (.cells #[.slice U9 x9.length cu9, .slice V9 y9.length cv9] 29 (0, 0)) from Fb3_6.out.now) 1).trans rfl; have z4_0_6 : w6.cell? ⟨gb4, 0, none⟩ = some (.slice U11 x11.length cu11) := (blk_cell (show w6.heap[gb4]? = some (.cells #[.slice U11 x11.length cu11, .slice V11 y11.length cv11] 29 (0, 0)) from Fb4_6.out.now) 0).trans rfl; have z4_1_6 : w6.cell? ⟨gb4, 1, none⟩ = some (.slice V11 y11.length cv11) := (blk_cell (show w6.heap[gb4]? = some (.cells #[.slice U11 x11.length cu11, .slice V11 y11.length cv11] 29 (0, 0)) from Fb4_6.out.now) 1).trans rfl)
      | ((with_reducible refine gate_callee (f := 22) rfl ?_); refine goesL_ (some 14) rfl rfl Try.func22 (by kernel_rfl) rfl #[.agg #[.slice U11 x11.length cu11, .slice V11 y11.length cv11], .agg #[.slice U9 x9.length cu9, .slice V9 y9.length cv9]] rfl (by (try simp only [List.map_toArray, List.map_cons, List.map_nil]); first | done | rfl) ?_; (with_reducible refine (laws_eqDisk.calls k U11 cu11 x11 V11 cv11 y11 U9 cu9 x9 V9 cv9 y9 true _ (Two.c1 (Fo11_6.out.now)) (Two.l1 (Fo11_6.out.now)) (Two.c2 (Fo11_6.out.now)) (Two.l2 (Fo11_6.out.now)) (Two.c1 (Fo9_6.out.now)) (Two.l1 (Fo9_6.out.now)) (Two.c2 (Fo9_6.out.now)) (Two.l2 (Fo9_6.out.now)) A3.out).mono ?_); rintro e w7 ⟨rfl, hb⟩; refine ⟨_, rfl, ?_⟩; have Fo9_7 := Aside0.mk (Fo9_6.out.below hb); have Fb3_7 := Aside0.mk (Fb3_6.out.below hb); have Fo11_7 := Aside0.mk (Fo11_6.out.below hb); have Fb4_7 := Aside0.mk (Fb4_6.out.below hb); have HB_7 := Aside0.mk (below_step HB_6.out hb); have Z_7 := Aside0.mk (show w6.heap.size ≤ w7.heap.size from hb.size); clear Fo9_6 Fb3_6 Fo11_6 Fb4_6 HB_6 z3_0_6 z3_1_6 z4_0_6 z4_1_6 hb; have z3_0_7 : w7.cell? ⟨gb3, 0, none⟩ = some (.slice U9 x9.length cu9) := (blk_cell (show w7.heap[gb3]? = some (.cells #[.slice U9 x9.length cu9, .slice V9 y9.length cv9] 29 (0, 0)) from Fb3_7.out.now) 0).trans rfl; have z3_1_7 : w7.cell? ⟨gb3, 1, none⟩ = some (.slice V9 y9.length cv9) := (blk_cell (show w7.heap[gb3]? = some (.cells #[.slice U9 x9.length cu9, .slice V9 y9.length cv9] 29 (0, 0)) from Fb3_7.out.now) 1).trans rfl; have z4_0_7 : w7.cell? ⟨gb4, 0, none⟩ = some (.slice U11 x11.length cu11) := (blk_cell (show w7.heap[gb4]? = some (.cells #[.slice U11 x11.length cu11, .slice V11 y11.length cv11] 29 (0, 0)) from Fb4_7.out.now) 0).trans rfl; have z4_1_7 : w7.cell? ⟨gb4, 1, none⟩ = some (.slice V11 y11.length cv11) := (blk_cell (show w7.heap[gb4]? = some (.cells #[.slice U11 x11.length cu11, .slice V11 y11.length cv11] 29 (0, 0)) from Fb4_7.out.now) 1).trans rfl)
      | ((with_reducible refine gate_callee (f := 23) rfl ?_); refine goesL_ (some 18) rfl rfl Try.func23 (by kernel_rfl) rfl #[.agg #[.slice U11 x11.length cu11, .slice V11 y11.length cv11], .int .i64 1] rfl (by (try simp only [List.map_toArray, List.map_cons, List.map_nil]); first | done | rfl) ?_; (with_reducible refine (laws_markDisk.calls k (w3.heap.size) (w4.heap.size) U11 cu11 x11 V11 cv11 y11 1 t18 x18 y18 w _ HB_7.out (Fo11_7.out.top) (Fo11_7.out.now) A4.out).mono ?_); rintro e w8 ⟨rfl, hl0, hl1, ho, hb, hk⟩; refine ⟨_, rfl, ?_⟩; have Fm18_8 := Aside0.mk (Two.marked (lo := w3.heap.size) (hi := w4.heap.size) ho (Nat.le_trans (by have := Z_1.out; have := Z_2.out; have := Z_3.out; have := Z_4.out; have := Z_5.out; have := Z_6.out; have := Z_7.out; have := G3.out; have := G4.out; omega) (Nat.le_refl w7.heap.size))); have Lm18_0 := Aside0.mk hl0; have Lm18_1 := Aside0.mk hl1; have Fo9_8 := Aside0.mk (Fo9_7.out.kept hk (fun k_ hk_ => by have hq_ : w3.heap.size ≤ k_ ∧ k_ < w4.heap.size := hk_; have := Z_1.out; have := Z_2.out; have := Z_3.out; have := Z_4.out; have := Z_5.out; have := Z_6.out; have := Z_7.out; have := G3.out; have := G4.out; omega)); have Fb3_8 := Aside0.mk (Fb3_7.out.kept hk (fun k_ hk_ => by have hq_ : w3.heap.size ≤ k_ ∧ k_ < w4.heap.size := hk_; have := Z_1.out; have := Z_2.out; have := Z_3.out; have := Z_4.out; have := Z_5.out; have := Z_6.out; have := Z_7.out; have := G3.out; have := G4.out; omega)); have Fb4_8 := Aside0.mk (Fb4_7.out.kept hk (fun k_ hk_ => by have hq_ : w3.heap.size ≤ k_ ∧ k_ < w4.heap.size := hk_; have := Z_1.out; have := Z_2.out; have := Z_3.out; have := Z_4.out; have := Z_5.out; have := Z_6.out; have := Z_7.out; have := G3.out; have := G4.out; omega)); have HB_8 := Aside0.mk (hb); have Z_8 := Aside0.mk (show w7.heap.size ≤ w8.heap.size from hk.1); clear Fo9_7 Fb3_7 Fb4_7 Fo11_7 HB_7 z3_0_7 z3_1_7 z4_0_7 z4_1_7 ho hb hk hl0 hl1; have z3_0_8 : w8.cell? ⟨gb3, 0, none⟩ = some (.slice U9 x9.length cu9) := (blk_cell (show w8.heap[gb3]? = some (.cells #[.slice U9 x9.length cu9, .slice V9 y9.length cv9] 29 (0, 0)) from Fb3_8.out.now) 0).trans rfl; have z3_1_8 : w8.cell? ⟨gb3, 1, none⟩ = some (.slice V9 y9.length cv9) := (blk_cell (show w8.heap[gb3]? = some (.cells #[.slice U9 x9.length cu9, .slice V9 y9.length cv9] 29 (0, 0)) from Fb3_8.out.now) 1).trans rfl; have z4_0_8 : w8.cell? ⟨gb4, 0, none⟩ = some (.slice U11 x11.length cu11) := (blk_cell (show w8.heap[gb4]? = some (.cells #[.slice U11 x11.length cu11, .slice V11 y11.length cv11] 29 (0, 0)) from Fb4_8.out.now) 0).trans rfl; have z4_1_8 : w8.cell? ⟨gb4, 1, none⟩ = some (.slice V11 y11.length cv11) := (blk_cell (show w8.heap[gb4]? = some (.cells #[.slice U11 x11.length cu11, .slice V11 y11.length cv11] 29 (0, 0)) from Fb4_8.out.now) 1).trans rfl)
      | ((with_reducible refine gate_callee (f := 24) rfl ?_); refine goesL_ (some 21) rfl rfl Try.func24 (by kernel_rfl) rfl #[.agg #[.slice U11 x11.length cu11, .slice V11 y11.length cv11], .int .i64 1] rfl (by (try simp only [List.map_toArray, List.map_cons, List.map_nil]); first | done | rfl) ?_; have hcall := laws_heldDisk.calls k U11 cu11 x18 V11 cv11 y18 1 t21 w8 (Two.c1 (Fm18_8.out.now)) (Two.l1 (Fm18_8.out.now)) (Two.c2 (Fm18_8.out.now)) (Two.l2 (Fm18_8.out.now)) A5.out; rw [show x18.length = x11.length from Lm18_0.out, show y18.length = y11.length from Lm18_1.out] at hcall; refine hcall.mono ?_; rintro e w9 ⟨rfl, hb⟩; refine ⟨_, rfl, ?_⟩; have Fo9_9 := Aside0.mk (Fo9_8.out.below hb); have Fb3_9 := Aside0.mk (Fb3_8.out.below hb); have Fb4_9 := Aside0.mk (Fb4_8.out.below hb); have Fm18_9 := Aside0.mk (Fm18_8.out.below hb); have HB_9 := Aside0.mk (below_step HB_8.out hb); have Z_9 := Aside0.mk (show w8.heap.size ≤ w9.heap.size from hb.size); clear Fo9_8 Fb3_8 Fb4_8 Fm18_8 HB_8 z3_0_8 z3_1_8 z4_0_8 z4_1_8 hb; have z3_0_9 : w9.cell? ⟨gb3, 0, none⟩ = some (.slice U9 x9.length cu9) := (blk_cell (show w9.heap[gb3]? = some (.cells #[.slice U9 x9.length cu9, .slice V9 y9.length cv9] 29 (0, 0)) from Fb3_9.out.now) 0).trans rfl; have z3_1_9 : w9.cell? ⟨gb3, 1, none⟩ = some (.slice V9 y9.length cv9) := (blk_cell (show w9.heap[gb3]? = some (.cells #[.slice U9 x9.length cu9, .slice V9 y9.length cv9] 29 (0, 0)) from Fb3_9.out.now) 1).trans rfl; have z4_0_9 : w9.cell? ⟨gb4, 0, none⟩ = some (.slice U11 x11.length cu11) := (blk_cell (show w9.heap[gb4]? = some (.cells #[.slice U11 x11.length cu11, .slice V11 y11.length cv11] 29 (0, 0)) from Fb4_9.out.now) 0).trans rfl; have z4_1_9 : w9.cell? ⟨gb4, 1, none⟩ = some (.slice V11 y11.length cv11) := (blk_cell (show w9.heap[gb4]? = some (.cells #[.slice U11 x11.length cu11, .slice V11 y11.length cv11] 29 (0, 0)) from Fb4_9.out.now) 1).trans rfl)
      | ((with_reducible refine gate_callee (f := 21) rfl ?_); refine goesL_ (some 28) rfl rfl Try.func21 (by kernel_rfl) rfl #[.int .i64 a0] rfl (by (try simp only [List.map_toArray, List.map_cons, List.map_nil]); first | done | rfl) ?_; (with_reducible refine (impl_NewDisk.calls a0 x28 y28 _  A8.out).mono ?_); rintro e w10 ⟨v_, u_, rfl, ho0, ho1, hb⟩; have htw := Two.of (ok' := fun _ => True) rfl ho0 (Kd.S_mono ho1 (fun _ h_ => ⟨trivial, h_⟩)); obtain ⟨U28, cu28, V28, cv28, rfl, rfl⟩ := Two.slices htw; have hrw := Two.held (b := w.heap.size) htw (Below.size HB_9.out); refine ⟨_, rfl, ?_⟩; have Fo28_10 := Aside0.mk hrw; clear hrw; clear ho0 ho1 htw; have Fo9_10 := Aside0.mk (Fo9_9.out.below hb); have Fb3_10 := Aside0.mk (Fb3_9.out.below hb); have Fb4_10 := Aside0.mk (Fb4_9.out.below hb); have Fm18_10 := Aside0.mk (Fm18_9.out.below hb); have HB_10 := Aside0.mk (below_step HB_9.out hb); have Z_10 := Aside0.mk (show w9.heap.size ≤ w10.heap.size from hb.size); clear Fo9_9 Fb3_9 Fb4_9 Fm18_9 HB_9 z3_0_9 z3_1_9 z4_0_9 z4_1_9 hb; have z3_0_10 : w10.cell? ⟨gb3, 0, none⟩ = some (.slice U9 x9.length cu9) := (blk_cell (show w10.heap[gb3]? = some (.cells #[.slice U9 x9.length cu9, .slice V9 y9.length cv9] 29 (0, 0)) from Fb3_10.out.now) 0).trans rfl; have z3_1_10 : w10.cell? ⟨gb3, 1, none⟩ = some (.slice V9 y9.length cv9) := (blk_cell (show w10.heap[gb3]? = some (.cells #[.slice U9 x9.length cu9, .slice V9 y9.length cv9] 29 (0, 0)) from Fb3_10.out.now) 1).trans rfl; have z4_0_10 : w10.cell? ⟨gb4, 0, none⟩ = some (.slice U11 x11.length cu11) := (blk_cell (show w10.heap[gb4]? = some (.cells #[.slice U11 x11.length cu11, .slice V11 y11.length cv11] 29 (0, 0)) from Fb4_10.out.now) 0).trans rfl; have z4_1_10 : w10.cell? ⟨gb4, 1, none⟩ = some (.slice V11 y11.length cv11) := (blk_cell (show w10.heap[gb4]? = some (.cells #[.slice U11 x11.length cu11, .slice V11 y11.length cv11] 29 (0, 0)) from Fb4_10.out.now) 1).trans rfl)
      | ((with_reducible refine gate_dst (N := 7) rfl ?_); refine box_event ?hg (N := 7) ?hd (cs := #[.slice none 0 0, .slice none 0 0]) (t := 29) ?hr ?_; (case hd => rfl); (case hg => rfl); (case hr => first | (go_simp; done) | (go_simp; rfl)); intro gb7 hgb w11 hbox hb; have G7 := Aside0.mk (show w10.heap.size ≤ gb7 ∧ gb7 < w11.heap.size from ⟨by omega, blk_lt hbox⟩); have Fb7_11 := Aside0.mk (Held.blk hbox); have Fo9_11 := Aside0.mk (Fo9_10.out.below hb); have Fb3_11 := Aside0.mk (Fb3_10.out.below hb); have Fb4_11 := Aside0.mk (Fb4_10.out.below hb); have Fm18_11 := Aside0.mk (Fm18_10.out.below hb); have Fo28_11 := Aside0.mk (Fo28_10.out.below hb); have HB_11 := Aside0.mk (below_step HB_10.out hb); have Z_11 := Aside0.mk (show w10.heap.size ≤ w11.heap.size from hb.size); clear Fo9_10 Fb3_10 Fb4_10 Fm18_10 Fo28_10 HB_10 z3_0_10 z3_1_10 z4_0_10 z4_1_10 hb hbox hgb; have z3_0_11 : w11.cell? ⟨gb3, 0, none⟩ = some (.slice U9 x9.length cu9) := (blk_cell (show w11.heap[gb3]? = some (.cells #[.slice U9 x9.length cu9, .slice V9 y9.length cv9] 29 (0, 0)) from Fb3_11.out.now) 0).trans rfl; have z3_1_11 : w11.cell? ⟨gb3, 1, none⟩ = some (.slice V9 y9.length cv9) := (blk_cell (show w11.heap[gb3]? = some (.cells #[.slice U9 x9.length cu9, .slice V9 y9.length cv9] 29 (0, 0)) from Fb3_11.out.now) 1).trans rfl; have z4_0_11 : w11.cell? ⟨gb4, 0, none⟩ = some (.slice U11 x11.length cu11) := (blk_cell (show w11.heap[gb4]? = some (.cells #[.slice U11 x11.length cu11, .slice V11 y11.length cv11] 29 (0, 0)) from Fb4_11.out.now) 0).trans rfl; have z4_1_11 : w11.cell? ⟨gb4, 1, none⟩ = some (.slice V11 y11.length cv11) := (blk_cell (show w11.heap[gb4]? = some (.cells #[.slice U11 x11.length cu11, .slice V11 y11.length cv11] 29 (0, 0)) from Fb4_11.out.now) 1).trans rfl; have z7_0_11 : w11.cell? ⟨gb7, 0, none⟩ = some (.slice none 0 0) := (blk_cell (show w11.heap[gb7]? = some (.cells #[.slice none 0 0, .slice none 0 0] 29 (0, 0)) from Fb7_11.out.now) 0).trans rfl; have z7_1_11 : w11.cell? ⟨gb7, 1, none⟩ = some (.slice none 0 0) := (blk_cell (show w11.heap[gb7]? = some (.cells #[.slice none 0 0, .slice none 0 0] 29 (0, 0)) from Fb7_11.out.now) 1).trans rfl)
      | ((with_reducible refine gate_store (t := 29) (p := 7) rfl ?_); refine Box.store_cells (P := Try.prog) ?hg (t := 29) (p := .tmp 7) (x := .tmp 28) ?ho ?hn gb7 0 ?ha (u := .agg #[.slice U28 x28.length cu28, .slice V28 y28.length cv28]) ?hx [.slice U28 x28.length cu28, .slice V28 y28.length cv28] rfl (by kernel_rfl) (by intro q_ hq_; simp only [List.mem_cons, List.not_mem_nil, or_false] at hq_; rcases hq_ with rfl | rfl <;> rfl) #[.slice none 0 0, .slice none 0 0] #[.slice U28 x28.length cu28, .slice V28 y28.length cv28] (e := 29) (show w11.heap[gb7]? = some (.cells #[.slice none 0 0, .slice none 0 0] 29 (0, 0)) from Fb7_11.out.now) (by show 0 + 2 ≤ 2; decide) rfl ?_; (case ho => rfl); (case hg => rfl); (case hn => rfl); (case ha => first | rfl | (go_simp; done) | (go_simp; rfl)); (case hx => first | rfl | (go_simp; done) | (go_simp; rfl)); intro w12 hbox hgr; have n_ := Aside0.mk (Held.blk hbox); have Fo9_12 := Aside0.mk (Fo9_11.out.grown hgr (by have := Z_1.out; have := Z_2.out; have := Z_3.out; have := Z_4.out; have := Z_5.out; have := Z_6.out; have := Z_7.out; have := Z_8.out; have := Z_9.out; have := Z_10.out; have := Z_11.out; have := G3.out; have := G4.out; have := G7.out; omega)); have Fb3_12 := Aside0.mk (Fb3_11.out.grown hgr (by have := Z_1.out; have := Z_2.out; have := Z_3.out; have := Z_4.out; have := Z_5.out; have := Z_6.out; have := Z_7.out; have := Z_8.out; have := Z_9.out; have := Z_10.out; have := Z_11.out; have := G3.out; have := G4.out; have := G7.out; omega)); have Fb4_12 := Aside0.mk (Fb4_11.out.grown hgr (by have := Z_1.out; have := Z_2.out; have := Z_3.out; have := Z_4.out; have := Z_5.out; have := Z_6.out; have := Z_7.out; have := Z_8.out; have := Z_9.out; have := Z_10.out; have := Z_11.out; have := G3.out; have := G4.out; have := G7.out; omega)); have Fm18_12 := Aside0.mk (Fm18_11.out.grown hgr (by have := Z_1.out; have := Z_2.out; have := Z_3.out; have := Z_4.out; have := Z_5.out; have := Z_6.out; have := Z_7.out; have := Z_8.out; have := Z_9.out; have := Z_10.out; have := Z_11.out; have := G3.out; have := G4.out; have := G7.out; omega)); have Fo28_12 := Aside0.mk (Fo28_11.out.grown hgr (by have := Z_1.out; have := Z_2.out; have := Z_3.out; have := Z_4.out; have := Z_5.out; have := Z_6.out; have := Z_7.out; have := Z_8.out; have := Z_9.out; have := Z_10.out; have := Z_11.out; have := G3.out; have := G4.out; have := G7.out; omega)); have HB_12 := Aside0.mk (Box.below_grown HB_11.out hgr (by have hh_ := (Below.size HB_11.out); have := Z_1.out; have := Z_2.out; have := Z_3.out; have := Z_4.out; have := Z_5.out; have := Z_6.out; have := Z_7.out; have := Z_8.out; have := Z_9.out; have := Z_10.out; have := Z_11.out; have := G3.out; have := G4.out; have := G7.out; omega)); have Z_12 := Aside0.mk (show w11.heap.size ≤ w12.heap.size from grown_top hgr); clear Fo9_11 Fb3_11 Fb4_11 Fm18_11 Fo28_11 Fb7_11 HB_11 z3_0_11 z3_1_11 z4_0_11 z4_1_11 z7_0_11 z7_1_11 hbox hgr; have Fb7_12 := n_; clear n_; have z3_0_12 : w12.cell? ⟨gb3, 0, none⟩ = some (.slice U9 x9.length cu9) := (blk_cell (show w12.heap[gb3]? = some (.cells #[.slice U9 x9.length cu9, .slice V9 y9.length cv9] 29 (0, 0)) from Fb3_12.out.now) 0).trans rfl; have z3_1_12 : w12.cell? ⟨gb3, 1, none⟩ = some (.slice V9 y9.length cv9) := (blk_cell (show w12.heap[gb3]? = some (.cells #[.slice U9 x9.length cu9, .slice V9 y9.length cv9] 29 (0, 0)) from Fb3_12.out.now) 1).trans rfl; have z4_0_12 : w12.cell? ⟨gb4, 0, none⟩ = some (.slice U11 x11.length cu11) := (blk_cell (show w12.heap[gb4]? = some (.cells #[.slice U11 x11.length cu11, .slice V11 y11.length cv11] 29 (0, 0)) from Fb4_12.out.now) 0).trans rfl; have z4_1_12 : w12.cell? ⟨gb4, 1, none⟩ = some (.slice V11 y11.length cv11) := (blk_cell (show w12.heap[gb4]? = some (.cells #[.slice U11 x11.length cu11, .slice V11 y11.length cv11] 29 (0, 0)) from Fb4_12.out.now) 1).trans rfl; have z7_0_12 : w12.cell? ⟨gb7, 0, none⟩ = some (.slice U28 x28.length cu28) := (blk_cell (show w12.heap[gb7]? = some (.cells #[.slice U28 x28.length cu28, .slice V28 y28.length cv28] 29 (0, 0)) from Fb7_12.out.now) 0).trans rfl; have z7_1_12 : w12.cell? ⟨gb7, 1, none⟩ = some (.slice V28 y28.length cv28) := (blk_cell (show w12.heap[gb7]? = some (.cells #[.slice U28 x28.length cu28, .slice V28 y28.length cv28] 29 (0, 0)) from Fb7_12.out.now) 1).trans rfl)
      | ((with_reducible refine gate_callee (f := 22) rfl ?_); refine goesL_ (some 31) rfl rfl Try.func22 (by kernel_rfl) rfl #[.agg #[.slice U28 x28.length cu28, .slice V28 y28.length cv28], .agg #[.slice U9 x9.length cu9, .slice V9 y9.length cv9]] rfl (by (try simp only [List.map_toArray, List.map_cons, List.map_nil]); first | done | rfl) ?_; (with_reducible refine (laws_eqDisk.calls k U28 cu28 x28 V28 cv28 y28 U9 cu9 x9 V9 cv9 y9 true _ (Two.c1 (Fo28_12.out.now)) (Two.l1 (Fo28_12.out.now)) (Two.c2 (Fo28_12.out.now)) (Two.l2 (Fo28_12.out.now)) (Two.c1 (Fo9_12.out.now)) (Two.l1 (Fo9_12.out.now)) (Two.c2 (Fo9_12.out.now)) (Two.l2 (Fo9_12.out.now)) A9.out).mono ?_); rintro e w13 ⟨rfl, hb⟩; refine ⟨_, rfl, ?_⟩; have Fo9_13 := Aside0.mk (Fo9_12.out.below hb); have Fb3_13 := Aside0.mk (Fb3_12.out.below hb); have Fb4_13 := Aside0.mk (Fb4_12.out.below hb); have Fm18_13 := Aside0.mk (Fm18_12.out.below hb); have Fo28_13 := Aside0.mk (Fo28_12.out.below hb); have Fb7_13 := Aside0.mk (Fb7_12.out.below hb); have HB_13 := Aside0.mk (below_step HB_12.out hb); have Z_13 := Aside0.mk (show w12.heap.size ≤ w13.heap.size from hb.size); clear Fo9_12 Fb3_12 Fb4_12 Fm18_12 Fo28_12 Fb7_12 HB_12 z3_0_12 z3_1_12 z4_0_12 z4_1_12 z7_0_12 z7_1_12 hb; have z3_0_13 : w13.cell? ⟨gb3, 0, none⟩ = some (.slice U9 x9.length cu9) := (blk_cell (show w13.heap[gb3]? = some (.cells #[.slice U9 x9.length cu9, .slice V9 y9.length cv9] 29 (0, 0)) from Fb3_13.out.now) 0).trans rfl; have z3_1_13 : w13.cell? ⟨gb3, 1, none⟩ = some (.slice V9 y9.length cv9) := (blk_cell (show w13.heap[gb3]? = some (.cells #[.slice U9 x9.length cu9, .slice V9 y9.length cv9] 29 (0, 0)) from Fb3_13.out.now) 1).trans rfl; have z4_0_13 : w13.cell? ⟨gb4, 0, none⟩ = some (.slice U11 x11.length cu11) := (blk_cell (show w13.heap[gb4]? = some (.cells #[.slice U11 x11.length cu11, .slice V11 y11.length cv11] 29 (0, 0)) from Fb4_13.out.now) 0).trans rfl; have z4_1_13 : w13.cell? ⟨gb4, 1, none⟩ = some (.slice V11 y11.length cv11) := (blk_cell (show w13.heap[gb4]? = some (.cells #[.slice U11 x11.length cu11, .slice V11 y11.length cv11] 29 (0, 0)) from Fb4_13.out.now) 1).trans rfl; have z7_0_13 : w13.cell? ⟨gb7, 0, none⟩ = some (.slice U28 x28.length cu28) := (blk_cell (show w13.heap[gb7]? = some (.cells #[.slice U28 x28.length cu28, .slice V28 y28.length cv28] 29 (0, 0)) from Fb7_13.out.now) 0).trans rfl; have z7_1_13 : w13.cell? ⟨gb7, 1, none⟩ = some (.slice V28 y28.length cv28) := (blk_cell (show w13.heap[gb7]? = some (.cells #[.slice U28 x28.length cu28, .slice V28 y28.length cv28] 29 (0, 0)) from Fb7_13.out.now) 1).trans rfl)
      | ((with_reducible refine gate_callee (f := 24) rfl ?_); refine goesL_ (some 35) rfl rfl Try.func24 (by kernel_rfl) rfl #[.agg #[.slice U11 x11.length cu11, .slice V11 y11.length cv11], .int .i64 1] rfl (by (try simp only [List.map_toArray, List.map_cons, List.map_nil]); first | done | rfl) ?_; have hcall := laws_heldDisk.calls k U11 cu11 x18 V11 cv11 y18 1 t35 w13 (Two.c1 (Fm18_13.out.now)) (Two.l1 (Fm18_13.out.now)) (Two.c2 (Fm18_13.out.now)) (Two.l2 (Fm18_13.out.now)) A10.out; rw [show x18.length = x11.length from Lm18_0.out, show y18.length = y11.length from Lm18_1.out] at hcall; refine hcall.mono ?_; rintro e w14 ⟨rfl, hb⟩; refine ⟨_, rfl, ?_⟩; have Fo9_14 := Aside0.mk (Fo9_13.out.below hb); have Fb3_14 := Aside0.mk (Fb3_13.out.below hb); have Fb4_14 := Aside0.mk (Fb4_13.out.below hb); have Fm18_14 := Aside0.mk (Fm18_13.out.below hb); have Fo28_14 := Aside0.mk (Fo28_13.out.below hb); have Fb7_14 := Aside0.mk (Fb7_13.out.below hb); have HB_14 := Aside0.mk (below_step HB_13.out hb); have Z_14 := Aside0.mk (show w13.heap.size ≤ w14.heap.size from hb.size); clear Fo9_13 Fb3_13 Fb4_13 Fm18_13 Fo28_13 Fb7_13 HB_13 z3_0_13 z3_1_13 z4_0_13 z4_1_13 z7_0_13 z7_1_13 hb; have z3_0_14 : w14.cell? ⟨gb3, 0, none⟩ = some (.slice U9 x9.length cu9) := (blk_cell (show w14.heap[gb3]? = some (.cells #[.slice U9 x9.length cu9, .slice V9 y9.length cv9] 29 (0, 0)) from Fb3_14.out.now) 0).trans rfl; have z3_1_14 : w14.cell? ⟨gb3, 1, none⟩ = some (.slice V9 y9.length cv9) := (blk_cell (show w14.heap[gb3]? = some (.cells #[.slice U9 x9.length cu9, .slice V9 y9.length cv9] 29 (0, 0)) from Fb3_14.out.now) 1).trans rfl; have z4_0_14 : w14.cell? ⟨gb4, 0, none⟩ = some (.slice U11 x11.length cu11) := (blk_cell (show w14.heap[gb4]? = some (.cells #[.slice U11 x11.length cu11, .slice V11 y11.length cv11] 29 (0, 0)) from Fb4_14.out.now) 0).trans rfl; have z4_1_14 : w14.cell? ⟨gb4, 1, none⟩ = some (.slice V11 y11.length cv11) := (blk_cell (show w14.heap[gb4]? = some (.cells #[.slice U11 x11.length cu11, .slice V11 y11.length cv11] 29 (0, 0)) from Fb4_14.out.now) 1).trans rfl; have z7_0_14 : w14.cell? ⟨gb7, 0, none⟩ = some (.slice U28 x28.length cu28) := (blk_cell (show w14.heap[gb7]? = some (.cells #[.slice U28 x28.length cu28, .slice V28 y28.length cv28] 29 (0, 0)) from Fb7_14.out.now) 0).trans rfl; have z7_1_14 : w14.cell? ⟨gb7, 1, none⟩ = some (.slice V28 y28.length cv28) := (blk_cell (show w14.heap[gb7]? = some (.cells #[.slice U28 x28.length cu28, .slice V28 y28.length cv28] 29 (0, 0)) from Fb7_14.out.now) 1).trans rfl)
      | fail)
  go_ret
  exact ⟨rfl, HB_14.out⟩
end


end Go.Proofs.Ytdhjhadcadcceaa.PFnExactNewDisk
