-- written by a program of this session (wip/src/print2.py)
import Derived.Test.YtkehfdadplpaeaaPFnExactSurvivorsx0
namespace Go.Proofs.Ytkehfdadplpaeaa.PFnExactSurvivors
open Go.RowKit Go.Proofs.YtkehfdadplpaeaaW.PrintWords Go.Proofs.YtkehfdadplpaeaaW.PrintLast Go.Proofs.YtkehfdadplpaeaaW.PrintMore
attribute [local go_sem] max2_int min2_int max_two min_two max_three min_three max_four min_four   -- for this text's walks alone
set_option linter.unusedVariables false
set_option linter.unusedSimpArgs false

/-! ### laws_markByteS: function 38 -/
def laws_markByteS.l0 : Nat → List Int → Int → Int → Option (Int × List Int)
 | 0, _, _, _ => none
 | k + 1, x0, x1, x5 => if x5 < (x0.length : Int) then (if 0 ≤ x5 then (laws_markByteS.l0 k (x0.set (x5 : Int).toNat ((x1) % 256)) (wrap64 (x1 + 1)) (wrap64 (x5 + 1))) else (none)) else (some (x1, x0))
def laws_markByteS.f (k : Nat) (l0 : List Int) (a1 : Int) : Option (Int × List Int) := laws_markByteS.l0 k l0 a1 0
set_option maxHeartbeats 8000000 in
set_option maxRecDepth 100000 in
theorem laws_markByteS.calls (k : Nat) (P0_ : Nat → Prop) (u9000_ : Value) (l0 : List Int) (a1 : Int) (r1 : Int) (r2 : List Int) (w0 w : World) (hB : Below w0.heap.size w0 w) (ho0 : Kd.R (Kd.int .u8) 5 w w0.heap.size P0_ u9000_ l0) (h : laws_markByteS.f k l0 a1 = some (r1, r2)) :
  Calls Try.prog 38 #[u9000_, .int .i64 a1] w fun e w' => e = .returned (.int .i64 r1) ∧ Kd.R (Kd.int .u8) 5 w' w0.heap.size (fun k_ => (P0_ k_ ∨ w.heap.size ≤ k_)) u9000_ r2 ∧ Below w0.heap.size w0 w' ∧ Kept w w' (fun k_ => P0_ k_) := by
 have HO0 := Aside0.mk (show Kd.R (Kd.int .u8) 5 w w0.heap.size (fun k_ => (P0_ k_ ∨ w.heap.size ≤ k_)) u9000_ l0 from Kd.R_mono ho0 (fun k_ hk => (.inl hk)))
 have HK := Aside0.mk (Kept.refl w (fun k_ => P0_ k_))
 have HW0 := Aside0.mk hB.size
 have HB := Aside0.mk hB
 clear hB
 have H : (laws_markByteS.l0 k l0 a1 0) = some (r1, r2) := h
 clear h
 have H' := Aside0.mk H
 clear H
 go_enter Try.func38, Try.ntmps38
 go_wp2
 go_loopg [1, 5] k (fun kq v1 v5 w' => ∃ (x0_1 : List Int) (x1_1 : Int) (x5_1 : Int), v1 = .int .i64 x1_1 ∧ v5 = .int .i64 x5_1 ∧ Aside0 (laws_markByteS.l0 kq x0_1 x1_1 x5_1 = some (r1, r2)) ∧ Aside0 (kq ≤ k) ∧ Aside0 (Kd.R (Kd.int .u8) 5 w' w0.heap.size (fun k_ => (P0_ k_ ∨ w.heap.size ≤ k_)) u9000_ x0_1) ∧ Aside0 (Kept w w' (fun k_ => P0_ k_)) ∧ Aside0 (Below w0.heap.size w0 w'))
 case atStart => exact ⟨(l0), (a1), (0), (by first | rfl | (simp; done) | (simp [*]; done)), (by first | rfl | (simp; done) | (simp [*]; done)), H', ⟨Nat.le_refl _⟩, ⟨Rgn.rq HO0.out⟩, ⟨Rgn.kq HK.out⟩, ⟨Rgn.bq HB.out⟩⟩
 case round =>
  clear H'
  try clear p2
  obtain ⟨x0_1, x1_1, x5_1, rfl, rfl, HA, HK1, HO_0, HK, HB⟩ := hrel
  cases gk with
  | zero => exact absurd HA.out (by simp [laws_markByteS.l0])
  | succ k1 =>
   have H := HA.out
   clear HA
   simp only [laws_markByteS.l0] at H
   by_cases c3 : x5_1 < (x0_1.length : Int)
   ·
    rw [if_pos c3] at H
    have c3b0 : decide (x5_1 < (x0_1.length : Int)) = true := decide_eq_true c3
    clear c3
    by_cases c4 : 0 ≤ x5_1
    ·
     rw [if_pos c4] at H
     have c4b0 : decide (0 ≤ x5_1) = true := decide_eq_true c4
     clear c4
     obtain ⟨y237, hy237⟩ : ∃ y_ : List Int, y_ = (x0_1.set (x5_1 : Int).toNat ((x1_1) % 256)) := ⟨_, rfl⟩
     replace H : (laws_markByteS.l0 k1 y237 (wrap64 (x1_1 + 1)) (wrap64 (x5_1 + 1))) = some (r1, r2) := by first | (rw [hy237]; with_reducible exact H) | (have H2_ := (Option.bind_some _ _).symm.trans H; rw [hy237]; with_reducible exact H2_) | (have H2_ := (Option.bind_some _ _).symm.trans H; with_reducible exact H2_) | with_reducible exact H | (rw [hy237]; exact H) | exact H
     have Ny237 := Aside0.mk hy237
     clear hy237
     have H' := Aside0.mk H
     clear H
     obtain ⟨Ao6, co6, eo6⟩ := Kd.R_slice HO_0.out
     subst eo6
     have p5 : 0 ≤ (x5_1 : Int) := of_decide_eq_true (by first | (with_reducible assumption) | assumption)
     have q5 : (x5_1 : Int) < ((x0_1.length : Int) : Int) := of_decide_eq_true (by first | (with_reducible assumption) | assumption)
     obtain ⟨go5, co5, eo5, gb5, gl5, cl5, HG5⟩ := Kd.R_form HO_0.out (by omega)
     (first | cases eo5 | (injection eo5 with ea_ en_ ec_; (first | subst ea_ | (injection ea_ with ea_; subst ea_)); subst ec_; clear en_))
     have GB5 := Aside0.mk gb5
     have GG5 := Aside0.mk HG5
     clear gb5 gl5 HG5
     have HMgo5 := Aside0.mk (show (P0_ go5 ∨ w.heap.size ≤ go5) from (HO_0.out.1 _ rfl))
     obtain ⟨hx5_0, hf5_0⟩ := Kd.R_celln 0 HO_0.out (x5_1 : Int) p5 q5
     replace p5 := eq_true p5
     replace q5 := eq_true q5
     have HP7 := Kd.R_putg HO_0.out (x5_1 : Int) ((x1_1) % 256)
     go_wp2_with (first | ((with_reducible refine gate_store (t := 5) (p := 16) rfl ?_); refine store_event (t := 5) (p := 16) (v := ?vo_w8) (w1 := (wr.setCell ⟨go5, (x5_1 : Int).toNat, none⟩ (.int .u8 ((x1_1) % 256)))) ?hg ?ho ?hn ?hr ?_; (case ho => rfl); (case hg => rfl); (case hn => rfl); (case hr => first | (go_simp; done) | (go_simp; rfl)); intro w8 hw; have hg : wr.grownBy w8 (some go5) := (by rw [hw]; exact HP7.2); have hp_ : Kd.R (Kd.int .u8) 5 w8 w0.heap.size (fun k_ => (P0_ k_ ∨ w.heap.size ≤ k_)) (.slice (some ⟨go5, 0, none⟩) x0_1.length co6) y237 := (by rw [hw, Ny237.out]; exact HP7.1); clear HP7; replace HB := Aside0.mk ((by rw [hw]; exact below_set (HB.out) GB5.out : Below w0.heap.size w0 w8)); replace HK := Aside0.mk (Kept.of_grown (S := (fun k_ => P0_ k_)) hg (Rgn.kq HK.out) (fun k_ e_ => (HO_0.out.1 k_ e_))); replace HO_0 := Aside0.mk (hp_); clear hg hw hp_))
     go_roundg k1
     case measure => have := HK1.out; omega
     case rel => exact ⟨(y237), (wrap64 (x1_1 + 1)), (wrap64 (x5_1 + 1)), (by first | rfl | (simp; done) | (simp [*]; done)), (by first | rfl | (simp; done) | (simp [*]; done)), H', ⟨by have := HK1.out; omega⟩, ⟨Rgn.rq HO_0.out⟩, ⟨Rgn.kq HK.out⟩, ⟨Rgn.bq HB.out⟩⟩
    ·
     rw [if_neg c4] at H
     exact absurd H (by simp)
   ·
    rw [if_neg c3] at H
    have c3b0 : decide (x5_1 < (x0_1.length : Int)) = false := decide_eq_false c3
    clear c3
    simp only [Option.some.injEq, Prod.mk.injEq] at H
    obtain ⟨rfl, rfl⟩ := H
    obtain ⟨Ao9, co9, eo9⟩ := Kd.R_slice HO_0.out
    subst eo9
    go_wp2
    go_ret
    exact ⟨by first | rfl | (simp [errW_none, errW_some] <;> rfl) | (simp [*, errW_none, errW_some] <;> rfl), Rgn.rq HO_0.out, Rgn.bq HB.out, Rgn.kq HK.out⟩

/-! ### laws_markHomeS: function 19 -/
/-- marks of a row of pairs (a number, a row of bytes): each number is written, then the row's bytes. -/
def laws_markHomeS.l0 : Nat → List (S61) → Int → Int → Option (Int × (List (S61)))
  | 0, _, _, _ => none
  | k + 1, x0, x1, x5 => if x5 < (x0.length : Int) then (if 0 ≤ x5 then ((laws_markByteS.f k ((rd_T61 x0 x5).f1) (wrap64 (x1 + 1))).bind fun t => laws_markHomeS.l0 k (x0.set (x5 : Int).toNat (⟨x1, t.2⟩ : S61)) t.1 (wrap64 (x5 + 1))) else none) else some (x1, x0)
def laws_markHomeS.f (k : Nat) (l0 : List (S61)) (a1 : Int) : Option (Int × (List (S61))) := laws_markHomeS.l0 k l0 a1 0
theorem laws_markHomeS.grown {w0 w w' : World} {P : Nat → Prop} {row : Option Nat} (h0 : Below w0.heap.size w0 w) (h1 : Below w0.heap.size w0 w') (hk : Kept w w' P) (hP : ∀ k, P k → some k = row) : w.grownBy w' row :=
  ⟨h1.os.trans h0.os.symm, h1.tape.trans h0.tape.symm, h1.output.trans h0.output.symm, hk.1, fun k hlt hne => hk.2 k hlt (fun hp => hne (hP k hp))⟩
theorem laws_markHomeS.getset (xs : List (S61)) (e : S61) (i : Nat) (hi : i < xs.length) : (xs.set i e).getD i z61 = e := by
  rw [List.getD_eq_getElem?_getD, List.getElem?_set_self hi]; rfl
set_option maxHeartbeats 8000000 in
set_option maxRecDepth 100000 in
theorem laws_markHomeS.calls (k : Nat) (P0_ : Nat → Prop) (u9000_ : Value) (l0 : List (S61)) (a1 : Int) (r1 : Int) (r2 : List (S61)) (w0 w : World) (hB : Below w0.heap.size w0 w) (ho0 : Kd.S k61 61 w w0.heap.size P0_ u9000_ l0) (h : laws_markHomeS.f k l0 a1 = some (r1, r2)) :
    Calls Try.prog 19 #[u9000_, .int .i64 a1] w fun e w' => e = .returned (.int .i64 r1) ∧ Kd.S k61 61 w' w0.heap.size (fun k_ => (P0_ k_ ∨ w.heap.size ≤ k_)) u9000_ r2 ∧ Below w0.heap.size w0 w' ∧ Kept w w' (fun k_ => P0_ k_) := by
  have HO0 := Aside0.mk (show Kd.S k61 61 w w0.heap.size (fun k_ => (P0_ k_ ∨ w.heap.size ≤ k_)) u9000_ l0 from Kd.S_mono ho0 (fun k_ hk => (.inl hk)))
  have HK := Aside0.mk (Kept.refl w (fun k_ => P0_ k_))
  have HB := Aside0.mk hB
  clear hB ho0
  have H : (laws_markHomeS.l0 k l0 a1 0) = some (r1, r2) := h
  clear h
  have H' := Aside0.mk H
  clear H
  go_enter Try.func19, Try.ntmps19
  go_wp2
  go_loopg [1, 5] k (fun kq v1 v5 w' => ∃ (x0_1 : List (S61)) (x1_1 : Int) (x5_1 : Int), v1 = .int .i64 x1_1 ∧ v5 = .int .i64 x5_1 ∧ Aside0 (laws_markHomeS.l0 kq x0_1 x1_1 x5_1 = some (r1, r2)) ∧ Aside0 (kq ≤ k) ∧ Aside0 (Kd.S k61 61 w' w0.heap.size (fun k_ => (P0_ k_ ∨ w.heap.size ≤ k_)) u9000_ x0_1) ∧ Aside0 (Kept w w' (fun k_ => P0_ k_)) ∧ Aside0 (Below w0.heap.size w0 w'))
  case atStart => exact ⟨(l0), (a1), (0), (by first | rfl | (simp; done) | (simp [*]; done)), (by first | rfl | (simp; done) | (simp [*]; done)), H', ⟨Nat.le_refl _⟩, ⟨by (with_reducible repeat (first | apply Kd.S_alloc | apply Kd.S_drewN | apply Kd.S_drew)); exact HO0.out⟩, ⟨by repeat (first | (with_reducible first | exact HK.out | apply Kept.alloc | apply Kept.drewN | apply Kept.drew) | exact HK.out)⟩, ⟨by repeat (first | (with_reducible first | exact HB.out | apply below_alloc | apply pw_below_drewN | apply below_drew1) | exact HB.out)⟩⟩
  case round =>
    clear H' HO0 HK HB
    obtain ⟨x0_1, x1_1, x5_1, rfl, rfl, HA, HK1, HO_0, HK, HB⟩ := hrel
    cases gk with
    | zero => exact absurd HA.out (by simp [laws_markHomeS.l0])
    | succ k1 =>
      have H := HA.out
      clear HA
      simp only [laws_markHomeS.l0] at H
      by_cases c3 : x5_1 < (x0_1.length : Int)
      · rw [if_pos c3] at H
        have c3b0 : decide (x5_1 < (x0_1.length : Int)) = true := decide_eq_true c3
        by_cases c4 : 0 ≤ x5_1
        · rw [if_pos c4] at H
          obtain ⟨⟨t1, t2⟩, A60, H⟩ := Option.bind_eq_some_iff.mp H
          have H' := Aside0.mk H
          have A6 := Aside0.mk A60
          clear H A60
          obtain ⟨go5, co5, eo5, gb5, gl5, cl5, HG5⟩ := Kd.S_form HO_0.out (by omega)
          subst eo5
          have HMgo5 := Aside0.mk (show (P0_ go5 ∨ w.heap.size ≤ go5) from ((Kd.S_R HO_0.out).1 _ rfl))
          obtain ⟨oki, ce5, hcl5, hM5, hcc5, hfr5, hoki5, hH5⟩ := Kd.S_elem (Kd.S_mono HO_0.out (ok' := fun k_ => (P0_ k_ ∨ w.heap.size ≤ k_) ∧ ¬ False) (fun _ hk => ⟨hk, fun h => h⟩)) z61 x5_1 c4 c3
          obtain ⟨v1, rfl, hR1⟩ := k61_openM hM5
          have hx5_0 : wr.cell? ⟨go5, (x5_1 : Int).toNat * 2, none⟩ = some (.int .i64 ((rd_T61 x0_1 x5_1).f0)) := hcc5 0 _ rfl
          have hf5_0 : wr.frozen? ⟨go5, (x5_1 : Int).toNat * 2, none⟩ = false := hfr5 0
          have HP := Aside0.mk (Kd.S_seg (ok := fun k_ => P0_ k_ ∨ w.heap.size ≤ k_) (okg := fun _ => False) hH5 c4 c3 (seg := [.int .i64 x1_1]) (j := 0) (show 1 ≤ 2 from by decide) (x' := (⟨x1_1, (rd_T61 x0_1 x5_1).f1⟩ : S61)) (k61_mkM _ _ _ (⟨x1_1, (rd_T61 x0_1 x5_1).f1⟩ : S61) hR1) (fun _ hk => .inl hk) (fun _ hk => hk.elim))
          have GB5 := Aside0.mk gb5
          have HI := Aside0.mk (show 0 ≤ x5_1 ∧ x5_1 < (x0_1.length : Int) from ⟨c4, c3⟩)
          have c4b0 : decide (0 ≤ x5_1) = true := decide_eq_true c4
          have c3e := eq_true c3
          clear hcl5 hM5 hcc5 hfr5 hoki5 hH5 hR1 gb5 gl5 HG5 cl5 c3
          have c4e := eq_true c4
          clear c4
          go_wp2_with (first
            | ((with_reducible refine gate_store (t := 2) (p := 16) rfl ?_); refine store_event (t := 2) (p := 16) (v := ?vo_w10) (w1 := (wr.setCell ⟨go5, (x5_1 : Int).toNat * 2, none⟩ (.int .i64 x1_1))) ?hg ?ho ?hn ?hr ?_; (case ho => rfl); (case hg => rfl); (case hn => rfl); (case hr => first | (go_simp; done) | (go_simp; rfl)); intro w10 hw; have hg : wr.grownBy w10 (some go5) := (by rw [hw]; exact HP.out.2); have hp_ : Kd.S k61 61 w10 w0.heap.size (fun k_ => (P0_ k_ ∨ w.heap.size ≤ k_)) (.slice (some ⟨go5, 0, none⟩) x0_1.length co5) (x0_1.set (x5_1 : Int).toNat (⟨x1_1, (rd_T61 x0_1 x5_1).f1⟩ : S61)) := (by rw [hw]; exact HP.out.1); have n1_ := Aside0.mk ((by rw [hw]; exact below_set (HB.out) GB5.out : Below w0.heap.size w0 w10)); have n2_ := Aside0.mk (Kept.of_grown (S := (fun k_ => P0_ k_)) hg HK.out (fun k_ e_ => (by cases e_; exact HMgo5.out))); clear HP HO_0 HB HK; have HB := n1_; have HK := n2_; clear n1_ n2_ hg hw; obtain ⟨oki2, ce2, hcl2, hM2, hcc2, hoki2, hback⟩ := Kd.S_borrow hp_ z61 x5_1 HI.out.1 HI.out.2; rw [laws_markHomeS.getset _ _ _ (by have := HI.out; omega)] at hM2; obtain ⟨v2, rfl, hR2⟩ := k61_openM hM2; have hx2 : w10.cell? ⟨go5, (x5_1 : Int).toNat * 2 + 1, none⟩ = some v2 := (by have h_ := hcc2 1 _ rfl; rw [add_plain] at h_; exact h_); obtain ⟨A2, cc2, ev2⟩ := Kd.R_slice hR2; subst ev2; have HR2 := Aside0.mk hR2; have HBK := Aside0.mk @hback; have HOK := Aside0.mk hoki2; clear hR2 hcl2 hM2 hcc2 hoki2 hback hp_)
            | ((with_reducible refine gate_callee (f := 38) rfl ?_); refine goesL_ (some 25) rfl rfl Try.func38 (by kernel_rfl) rfl #[.slice A2 ((rd_T61 x0_1 x5_1).f1).length cc2, .int .i64 (wrap64 (x1_1 + 1))] rfl (by (try simp only [List.map_toArray, List.map_cons, List.map_nil]); first | done | rfl | (simp only [List.length_drop, List.length_take]; rfl)) ?_; (with_reducible refine (laws_markByteS.calls k1 (fun k => some k = (Value.slice A2 ((rd_T61 x0_1 x5_1).f1).length cc2).ownBlock) _ ((rd_T61 x0_1 x5_1).f1) (wrap64 (x1_1 + 1)) t1 t2 w0 _ ?s1 ?s2 A6.out).mono ?_); (case s1 => exact (by repeat (first | (with_reducible first | exact HB.out | apply below_alloc | apply pw_below_drewN | apply below_drew1) | exact HB.out))); (case s2 => exact (by (with_reducible repeat (first | apply Kd.R_alloc | apply Kd.R_drewN | apply Kd.R_drew)); exact Kd.R_tight rfl HR2.out)); rintro e w11 ⟨rfl, hR3, hb3, hk3⟩; refine ⟨_, rfl, ?_⟩; have hg3 := laws_markHomeS.grown HB.out hb3 hk3 (fun _ h => h); have n0_ := Aside0.mk (HBK.out hg3 (fun k hk => HR2.out.1 k hk) (k61_mkM _ _ _ (⟨x1_1, t2⟩ : S61) (Kd.R_mono (Kd.R_tight rfl hR3) (fun k hk => HR2.out.1 k hk.symm)))); have n1_ := Aside0.mk (HK.out.then_ hk3 (fun k hk => (HOK.out k (HR2.out.1 k hk.symm)).1)); have n2_ := Aside0.mk hb3; clear HK HB HR2 HBK HOK hR3 hb3 hk3 hg3; rw [List.set_set] at n0_; have HO_0 := n0_; have HK := n1_; have HB := n2_; clear n0_ n1_ n2_))
          go_roundg k1
          case measure => have := HK1.out; omega
          case rel => exact ⟨_, t1, (wrap64 (x5_1 + 1)), (by first | rfl | (simp; done) | (simp [*]; done)), (by first | rfl | (simp; done) | (simp [*]; done)), H', ⟨by have := HK1.out; omega⟩, ⟨by (with_reducible repeat (first | apply Kd.S_alloc | apply Kd.S_drewN | apply Kd.S_drew)); exact HO_0.out⟩, ⟨by repeat (first | (with_reducible first | exact HK.out | apply Kept.alloc | apply Kept.drewN | apply Kept.drew) | exact HK.out)⟩, ⟨by repeat (first | (with_reducible first | exact HB.out | apply below_alloc | apply pw_below_drewN | apply below_drew1) | exact HB.out)⟩⟩
        · rw [if_neg c4] at H
          exact absurd H (by simp)
      · rw [if_neg c3] at H
        have c3b0 : decide (x5_1 < (x0_1.length : Int)) = false := decide_eq_false c3
        clear c3
        simp only [Option.some.injEq, Prod.mk.injEq] at H
        obtain ⟨rfl, rfl⟩ := H
        obtain ⟨Ao14, co14, eo14⟩ := Kd.S_slice HO_0.out
        subst eo14
        go_wp2
        go_ret
        exact ⟨by first | rfl | (simp [errW_none, errW_some] <;> rfl) | (simp [*, errW_none, errW_some] <;> rfl), by (with_reducible repeat (first | apply Kd.S_alloc | apply Kd.S_drewN | apply Kd.S_drew)); exact HO_0.out, by repeat (first | (with_reducible first | exact HB.out | apply below_alloc | apply pw_below_drewN | apply below_drew1) | exact HB.out), by repeat (first | (with_reducible first | exact HK.out | apply Kept.alloc | apply Kept.drewN | apply Kept.drew) | exact HK.out)⟩


/-! ### laws_markInt64S: function 37 -/
def laws_markInt64S.l0 : Nat → List Int → Int → Int → Option (Int × List Int)
 | 0, _, _, _ => none
 | k + 1, x0, x1, x5 => if x5 < (x0.length : Int) then (if 0 ≤ x5 then (laws_markInt64S.l0 k (x0.set (x5 : Int).toNat x1) (wrap64 (x1 + 1)) (wrap64 (x5 + 1))) else (none)) else (some (x1, x0))
def laws_markInt64S.f (k : Nat) (l0 : List Int) (a1 : Int) : Option (Int × List Int) := laws_markInt64S.l0 k l0 a1 0
/-! ### laws_markTxnS: function 18 -/
section
/-- What marks may do: in the blocks of ok numbers are written for numbers of the same kind; all else stays. -/
structure MS.Mu (ok : Nat → Prop) (w w' : World) : Prop where
  os : w'.os = w.os
  tape : w'.tape = w.tape
  output : w'.output = w.output
  size : w.heap.size ≤ w'.heap.size
  far : ∀ k, k < w.heap.size → ¬ ok k → w'.heap[k]? = w.heap[k]?
  blk : ∀ (g : Nat) (cur : Array Value) (e : TypeId), w.heap[g]? = some (.cells cur e (0, 0)) → ∃ cur', w'.heap[g]? = some (.cells cur' e (0, 0))
  near : ∀ (g j : Nat) (v : Value), w.cell? ⟨g, j, none⟩ = some v → w'.cell? ⟨g, j, none⟩ = some v ∨ ∃ q a b, v = .int q a ∧ w'.cell? ⟨g, j, none⟩ = some (.int q b)
theorem MS.Mu.refl (ok : Nat → Prop) (w : World) : Mu ok w w := ⟨rfl, rfl, rfl, Nat.le_refl _, fun _ _ _ => rfl, fun _ cur _ h => ⟨cur, h⟩, fun _ _ _ h => .inl h⟩
theorem MS.Mu.trans {ok : Nat → Prop} {a b c : World} (h : Mu ok a b) (k : Mu ok b c) : Mu ok a c := by
  refine ⟨k.os.trans h.os, k.tape.trans h.tape, k.output.trans h.output, Nat.le_trans h.size k.size, fun i hi hn => (k.far i (Nat.lt_of_lt_of_le hi h.size) hn).trans (h.far i hi hn), fun g cur e hh => ?_, fun g j v hv => ?_⟩
  · obtain ⟨cur', h'⟩ := h.blk g cur e hh
    exact k.blk g cur' e h'
  · rcases h.near g j v hv with h1 | ⟨q, x, y, rfl, h1⟩
    · exact k.near g j v h1
    · rcases k.near g j _ h1 with h2 | ⟨q', x', y', e, h2⟩
      · exact .inr ⟨q, x, y, rfl, h2⟩
      · injection e with e1 e2
        subst e1
        exact .inr ⟨q, x, y', rfl, h2⟩
theorem MS.Mu.set {ok : Nat → Prop} {w : World} {g i : Nat} {e : TypeId} {q : IntKind} {x : Int} {cur : Array Value} (hh : w.heap[g]? = some (.cells cur e (0, 0))) (hc : w.cell? ⟨g, i, none⟩ = some (.int q x)) (hok : ok g) (y : Int) : Mu ok w (w.setCell ⟨g, i, none⟩ (.int q y)) := by
  have hp := blk_put hh i (.int q y) rfl
  have hci : cur[i]? = some (.int q x) := (blk_cell hh i).symm.trans hc
  have hil : i < cur.size := (Array.getElem?_eq_some_iff.1 hci).1
  refine ⟨rfl, rfl, rfl, by simp [World.setCell], fun k _ hn => Below.heap_setCell w ⟨g, i, none⟩ _ k (fun e_ => hn (e_ ▸ hok)), fun g' cur' e' h' => ?_, fun g' j v hv => ?_⟩
  · by_cases eg : g' = g
    · subst eg
      rw [hh] at h'
      injection h' with h'
      injection h' with _ he _
      subst he
      exact ⟨_, hp⟩
    · exact ⟨cur', (Below.heap_setCell w ⟨g, i, none⟩ _ g' eg).trans h'⟩
  · by_cases eg : g' = g
    · subst eg
      by_cases ej : j = i
      · subst ej
        rw [hc] at hv
        refine .inr ⟨q, x, y, (Option.some.inj hv).symm, ?_⟩
        rw [blk_cell hp j, Array.getElem?_setIfInBounds]
        simp [hil]
      · refine .inl ?_
        rw [blk_cell hp j, Array.getElem?_setIfInBounds, if_neg (fun h_ => ej h_.symm)]
        exact (blk_cell hh j).symm.trans hv
    · exact .inl ((cell_far (p := ⟨g, i, none⟩) (a := ⟨g', j, none⟩) eg _).trans hv)
theorem MS.Mu.below {ok : Nat → Prop} {w0 w w' : World} (h : Mu ok w w') (hb : Below w0.heap.size w0 w) (hok : ∀ k, ok k → w0.heap.size ≤ k) : Below w0.heap.size w0 w' :=
  ⟨h.os.trans hb.os, h.tape.trans hb.tape, h.output.trans hb.output, Nat.le_trans hb.size h.size, fun k hk => (h.far k (Nat.lt_of_lt_of_le hk hb.size) (fun h_ => by have := hok k h_; omega)).trans (hb.block k hk)⟩
theorem MS.Mu.kept {ok : Nat → Prop} {w w' : World} (h : Mu ok w w') : Kept w w' ok := ⟨h.size, fun i hi hn => h.far i hi hn⟩
/-- A row of n numbers that may be written. -/
def MS.I (q : IntKind) (e : TypeId) (ok : Nat → Prop) (w : World) (v : Value) (n : Nat) : Prop :=
  ∃ A c, v = .slice A n c ∧ (n = 0 ∨ ∃ g cur, A = some ⟨g, 0, none⟩ ∧ ok g ∧ w.heap[g]? = some (.cells cur e (0, 0)) ∧ ∀ i, i < n → ∃ x, w.cell? ⟨g, i, none⟩ = some (.int q x))
theorem MS.I.mu {q : IntKind} {e : TypeId} {ok : Nat → Prop} {w w' : World} {v : Value} {n : Nat} (h : I q e ok w v n) (hm : Mu ok w w') : I q e ok w' v n := by
  obtain ⟨A, c, rfl, h⟩ := h
  refine ⟨A, c, rfl, ?_⟩
  rcases h with h | ⟨g, cur, rfl, hok, hh, hc⟩
  · exact .inl h
  · obtain ⟨cur', hh'⟩ := hm.blk g cur e hh
    refine .inr ⟨g, cur', rfl, hok, hh', fun i hi => ?_⟩
    obtain ⟨x, hx⟩ := hc i hi
    rcases hm.near g i _ hx with h1 | ⟨q', a, b, e1, h1⟩
    · exact ⟨x, h1⟩
    · injection e1 with e1 _
      subst e1
      exact ⟨b, h1⟩
theorem MS.I.at {q : IntKind} {e : TypeId} {ok : Nat → Prop} {w : World} {A : Option Addr} {n c i : Nat} (h : I q e ok w (.slice A n c) n) (hi : i < n) :
    ∃ g cur x, A = some ⟨g, 0, none⟩ ∧ ok g ∧ w.heap[g]? = some (.cells cur e (0, 0)) ∧ w.cell? ⟨g, i, none⟩ = some (.int q x) := by
  obtain ⟨A', c', e1, h⟩ := h
  injection e1 with e1 _ e2
  subst e1
  rcases h with h | ⟨g, cur, rfl, hok, hh, hc⟩
  · omega
  · obtain ⟨x, hx⟩ := hc i hi
    exact ⟨g, cur, x, rfl, hok, hh, hx⟩
/-- A row of homes, by the lengths of their data. -/
def MS.H (ok : Nat → Prop) (w : World) (v : Value) (ls : List Nat) : Prop :=
  ∃ A c, v = .slice A ls.length c ∧ (ls = [] ∨ ∃ g cur, A = some ⟨g, 0, none⟩ ∧ ok g ∧ w.heap[g]? = some (.cells cur 61 (0, 0)) ∧ ∀ i (hi : i < ls.length), (∃ x, w.cell? ⟨g, i * 2, none⟩ = some (.int .i64 x)) ∧ ∃ u, w.cell? ⟨g, i * 2 + 1, none⟩ = some u ∧ I .u8 5 ok w u ls[i])
theorem MS.keep_int {ok : Nat → Prop} {w w' : World} (hm : Mu ok w w') {g j : Nat} {q : IntKind} (h : ∃ x, w.cell? ⟨g, j, none⟩ = some (.int q x)) : ∃ x, w'.cell? ⟨g, j, none⟩ = some (.int q x) := by
  obtain ⟨x, hx⟩ := h
  rcases hm.near g j _ hx with h1 | ⟨q', a, b, e1, h1⟩
  · exact ⟨x, h1⟩
  · injection e1 with e1 _
    subst e1
    exact ⟨b, h1⟩
theorem MS.keep_slice {ok : Nat → Prop} {w w' : World} (hm : Mu ok w w') {g j : Nat} {A : Option Addr} {n c : Nat} (h : w.cell? ⟨g, j, none⟩ = some (.slice A n c)) : w'.cell? ⟨g, j, none⟩ = some (.slice A n c) := by
  rcases hm.near g j _ h with h1 | ⟨q', a, b, e1, h1⟩
  · exact h1
  · cases e1
theorem MS.H.mu {ok : Nat → Prop} {w w' : World} {v : Value} {ls : List Nat} (h : H ok w v ls) (hm : Mu ok w w') : H ok w' v ls := by
  obtain ⟨A, c, rfl, h⟩ := h
  refine ⟨A, c, rfl, ?_⟩
  rcases h with h | ⟨g, cur, rfl, hok, hh, hc⟩
  · exact .inl h
  · obtain ⟨cur', hh'⟩ := hm.blk g cur 61 hh
    refine .inr ⟨g, cur', rfl, hok, hh', fun i hi => ?_⟩
    obtain ⟨h1, u, h2, h3⟩ := hc i hi
    obtain ⟨A2, c2, rfl, _⟩ := id h3
    exact ⟨keep_int hm h1, _, keep_slice hm h2, h3.mu hm⟩
theorem MS.H.at {ok : Nat → Prop} {w : World} {A : Option Addr} {c i : Nat} {ls : List Nat} (h : H ok w (.slice A ls.length c) ls) (hi : i < ls.length) :
    ∃ g cur x Au cu, A = some ⟨g, 0, none⟩ ∧ ok g ∧ w.heap[g]? = some (.cells cur 61 (0, 0)) ∧ w.cell? ⟨g, i * 2, none⟩ = some (.int .i64 x) ∧ w.cell? ⟨g, i * 2 + 1, none⟩ = some (.slice Au ls[i] cu) ∧ I .u8 5 ok w (.slice Au ls[i] cu) ls[i] := by
  obtain ⟨A', c', e1, h⟩ := h
  injection e1 with e1 _ e2
  subst e1
  rcases h with h | ⟨g, cur, rfl, hok, hh, hc⟩
  · subst h; simp at hi
  · obtain ⟨⟨x, hx⟩, u, h2, h3⟩ := hc i hi
    obtain ⟨A2, c2, rfl, _⟩ := id h3
    exact ⟨g, cur, x, A2, c2, rfl, hok, hh, hx, h2, h3⟩
/-- A row of transactions, by the lengths within them. -/
def MS.T (ok : Nat → Prop) (w : World) (v : Value) (ts : List (List Nat × Nat)) : Prop :=
  ∃ A c, v = .slice A ts.length c ∧ (ts = [] ∨ ∃ g cur, A = some ⟨g, 0, none⟩ ∧ ok g ∧ w.heap[g]? = some (.cells cur 34 (0, 0)) ∧ ∀ i (hi : i < ts.length), (∃ x, w.cell? ⟨g, i * 3, none⟩ = some (.int .i64 x)) ∧ (∃ u, w.cell? ⟨g, i * 3 + 1, none⟩ = some u ∧ H ok w u ts[i].1) ∧ ∃ u, w.cell? ⟨g, i * 3 + 2, none⟩ = some u ∧ I .i64 2 ok w u ts[i].2)
theorem MS.T.mu {ok : Nat → Prop} {w w' : World} {v : Value} {ts : List (List Nat × Nat)} (h : T ok w v ts) (hm : Mu ok w w') : T ok w' v ts := by
  obtain ⟨A, c, rfl, h⟩ := h
  refine ⟨A, c, rfl, ?_⟩
  rcases h with h | ⟨g, cur, rfl, hok, hh, hc⟩
  · exact .inl h
  · obtain ⟨cur', hh'⟩ := hm.blk g cur 34 hh
    refine .inr ⟨g, cur', rfl, hok, hh', fun i hi => ?_⟩
    obtain ⟨h1, ⟨u, h2, h3⟩, u', h4, h5⟩ := hc i hi
    obtain ⟨A2, c2, rfl, _⟩ := id h3
    obtain ⟨A3, c3, rfl, _⟩ := id h5
    exact ⟨keep_int hm h1, ⟨_, keep_slice hm h2, h3.mu hm⟩, _, keep_slice hm h4, h5.mu hm⟩
theorem MS.T.at {ok : Nat → Prop} {w : World} {A : Option Addr} {c i : Nat} {ts : List (List Nat × Nat)} (h : T ok w (.slice A ts.length c) ts) (hi : i < ts.length) :
    ∃ g cur x Au cu Ar cr, A = some ⟨g, 0, none⟩ ∧ ok g ∧ w.heap[g]? = some (.cells cur 34 (0, 0)) ∧ w.cell? ⟨g, i * 3, none⟩ = some (.int .i64 x) ∧ w.cell? ⟨g, i * 3 + 1, none⟩ = some (.slice Au ts[i].1.length cu) ∧ H ok w (.slice Au ts[i].1.length cu) ts[i].1 ∧ w.cell? ⟨g, i * 3 + 2, none⟩ = some (.slice Ar ts[i].2 cr) ∧ I .i64 2 ok w (.slice Ar ts[i].2 cr) ts[i].2 := by
  obtain ⟨A', c', e1, h⟩ := h
  injection e1 with e1 _ e2
  subst e1
  rcases h with h | ⟨g, cur, rfl, hok, hh, hc⟩
  · subst h; simp at hi
  · obtain ⟨⟨x, hx⟩, ⟨u, h2, h3⟩, u', h4, h5⟩ := hc i hi
    obtain ⟨A2, c2, rfl, _⟩ := id h3
    obtain ⟨A3, c3, rfl, _⟩ := id h5
    exact ⟨g, cur, x, A2, c2, A3, c3, rfl, hok, hh, hx, h2, h3, h4, h5⟩
/-- Rows of a call's own are such rows. -/
theorem MS.of_I {q : IntKind} {e base : Nat} {ok : Nat → Prop} {w : World} {v : Value} {xs : List Int} (h : (Kd.int q).R e w base ok v xs) : I q e ok w v xs.length := by
  obtain ⟨A, c, rfl⟩ := Kd.R_slice h
  refine ⟨A, c, rfl, ?_⟩
  by_cases hp : 0 < xs.length
  · obtain ⟨g, cap, e1, _, _, cur, hh⟩ := Kd.R_form h hp
    injection e1 with e1 _ e2
    subst e1
    refine .inr ⟨g, cur, rfl, h.1 g rfl, hh, fun i hi => ?_⟩
    obtain ⟨c', hcl, hM, hcc, _⟩ := Kd.R_elem h 0 (i : Int) (Int.natCast_nonneg _) (by omega)
    have hM' : c' = [.int q (xs.getD ((i : Int)).toNat 0)] := hM
    subst hM'
    have := hcc 0 _ rfl
    have e2 : (Int.toNat (i : Int)) * (Kd.int q).sz + 0 = i := by show (Int.toNat (i : Int)) * 1 + 0 = i; simp
    rw [e2] at this
    exact ⟨_, this⟩
  · exact .inl (by omega)
theorem MS.of_H {base : Nat} {ok : Nat → Prop} {w : World} {v : Value} {xs : List S61} (h : k61.R 61 w base ok v xs) : H ok w v (xs.map (fun x => x.f1.length)) := by
  obtain ⟨A, c, rfl⟩ := Kd.R_slice h
  refine ⟨A, c, by rw [List.length_map], ?_⟩
  by_cases hp : 0 < xs.length
  · obtain ⟨g, cap, e1, _, _, cur, hh⟩ := Kd.R_form h hp
    injection e1 with e1 _ e2
    subst e1
    refine .inr ⟨g, cur, rfl, h.1 g rfl, hh, fun i hi => ?_⟩
    rw [List.length_map] at hi
    obtain ⟨c', hcl, hM, hcc, _⟩ := Kd.R_elem h z61 (i : Int) (Int.natCast_nonneg _) (by omega)
    obtain ⟨v1, rfl, hR⟩ := k61_openM hM
    have e0 : (Int.toNat (i : Int)) * k61.sz + 0 = i * 2 := by show (Int.toNat (i : Int)) * 2 + 0 = i * 2; simp
    have e1 : (Int.toNat (i : Int)) * k61.sz + 1 = i * 2 + 1 := by show (Int.toNat (i : Int)) * 2 + 1 = i * 2 + 1; simp
    have h0 := hcc 0 _ rfl
    have h1 := hcc 1 _ rfl
    rw [e0] at h0
    rw [e1] at h1
    have hx : xs.getD (Int.toNat (i : Int)) z61 = xs[i] := by simp [hi]
    refine ⟨⟨_, h0⟩, v1, h1, ?_⟩
    rw [List.getElem_map]
    rw [hx] at hR
    exact of_I (Kd.R_mono hR (fun k hk => hk.1))
  · have : xs = [] := List.length_eq_zero_iff.mp (by omega)
    subst this
    exact .inl rfl
/-- The lengths of transactions. -/
def MS.len (xs : List S34) : List (List Nat × Nat) := xs.map (fun t => (t.f1.map (fun x => x.f1.length), t.f2.length))
theorem MS.of_T {base : Nat} {ok : Nat → Prop} {w : World} {v : Value} {xs : List S34} (h : k34.R 34 w base ok v xs) : T ok w v (len xs) := by
  obtain ⟨A, c, rfl⟩ := Kd.R_slice h
  refine ⟨A, c, by unfold len; rw [List.length_map], ?_⟩
  by_cases hp : 0 < xs.length
  · obtain ⟨g, cap, e1, _, _, cur, hh⟩ := Kd.R_form h hp
    injection e1 with e1 _ e2
    subst e1
    refine .inr ⟨g, cur, rfl, h.1 g rfl, hh, fun i hi => ?_⟩
    have hi' := hi
    unfold len at hi'
    rw [List.length_map] at hi'
    obtain ⟨c', hcl, hM, hcc, _⟩ := Kd.R_elem h z34 (i : Int) (Int.natCast_nonneg _) (by omega)
    obtain ⟨v1, v2, rfl, hR1, hR2⟩ := k34_openM hM
    have e0 : (Int.toNat (i : Int)) * k34.sz + 0 = i * 3 := by show (Int.toNat (i : Int)) * 3 + 0 = i * 3; simp
    have e1 : (Int.toNat (i : Int)) * k34.sz + 1 = i * 3 + 1 := by show (Int.toNat (i : Int)) * 3 + 1 = i * 3 + 1; simp
    have e2 : (Int.toNat (i : Int)) * k34.sz + 2 = i * 3 + 2 := by show (Int.toNat (i : Int)) * 3 + 2 = i * 3 + 2; simp
    have h0 := hcc 0 _ rfl
    have h1 := hcc 1 _ rfl
    have h2 := hcc 2 _ rfl
    rw [e0] at h0
    rw [e1] at h1
    rw [e2] at h2
    have hx : xs.getD (Int.toNat (i : Int)) z34 = xs[i] := by simp [hi']
    rw [hx] at hR1 hR2
    have hg : (len xs)[i] = (xs[i].f1.map (fun x => x.f1.length), xs[i].f2.length) := by simp [len]
    rw [hg]
    exact ⟨⟨_, h0⟩, ⟨v1, h1, of_H (Kd.R_mono hR1 (fun k hk => hk.1))⟩, v2, h2, of_I (Kd.R_mono hR2 (fun k hk => hk.1))⟩
  · have : xs = [] := List.length_eq_zero_iff.mp (by omega)
    subst this
    exact .inl rfl
def MS.sh (ls : List Nat) : Nat := ls.length + ls.sum
def MS.st (ts : List (List Nat × Nat)) : Nat := (ts.map (fun t => 1 + sh t.1 + t.2)).sum
theorem MS.sh_take {ls : List Nat} {i : Nat} (hi : i < ls.length) : sh (ls.take (i + 1)) = sh (ls.take i) + 1 + ls[i] := by
  unfold sh
  rw [List.take_succ_eq_append_getElem hi, List.sum_append, List.length_append]
  simp only [List.sum_cons, List.sum_nil, List.length_cons, List.length_nil]
  omega
theorem MS.sh_le (ls : List Nat) (i : Nat) : sh (ls.take i) ≤ sh ls := by
  have h := List.take_append_drop i ls
  have h1 : sh ls = sh (ls.take i) + sh (ls.drop i) := by
    conv => lhs; rw [← h]
    unfold sh; rw [List.sum_append, List.length_append]; omega
  omega
theorem MS.st_take {ts : List (List Nat × Nat)} {i : Nat} (hi : i < ts.length) : st (ts.take (i + 1)) = st (ts.take i) + (1 + sh ts[i].1 + ts[i].2) := by
  unfold st
  rw [List.take_succ_eq_append_getElem hi, List.map_append, List.sum_append]
  simp only [List.map_cons, List.map_nil, List.sum_cons, List.sum_nil, Nat.add_zero]
theorem MS.st_le (ts : List (List Nat × Nat)) (i : Nat) : st (ts.take i) ≤ st ts := by
  have h := List.take_append_drop i ts
  have h1 : st ts = st (ts.take i) + st (ts.drop i) := by
    conv => lhs; rw [← h]
    unfold st; rw [List.map_append, List.sum_append]
  omega
theorem MS.wrap_small {x : Int} (h0 : 0 ≤ x) (h1 : x ≤ 9223372036854775807) : wrap64 x = x := by unfold wrap64; omega
end
set_option maxHeartbeats 8000000 in
set_option maxRecDepth 100000 in
theorem MS.bytes (ok : Nat → Prop) (v : Value) (n : Nat) (a : Int) (w : World) (hI : I .u8 5 ok w v n) (ha : 0 ≤ a) (hn : a + (n : Int) ≤ 4611686018427387904) :
    Calls Try.prog 38 #[v, .int .i64 a] w fun e w' => e = .returned (.int .i64 (a + (n : Int))) ∧ Mu ok w w' := by
  obtain ⟨A, c, rfl, hA⟩ := hI
  have HI := Aside0.mk (show I .u8 5 ok w (.slice A n c) n from ⟨A, c, rfl, hA⟩)
  have HN := Aside0.mk hn
  have H0 := Aside0.mk ha
  clear hA hn ha
  have HU := Aside0.mk (Mu.refl ok w)
  go_enter Try.func38, Try.ntmps38
  go_wp2
  go_loopg [1, 5] (n + 1) (fun kq v1 v5 w' => ∃ i : Nat, v1 = .int .i64 (a + (i : Int)) ∧ v5 = .int .i64 (i : Int) ∧ kq + i = n + 1 ∧ i ≤ n ∧ Aside0 (I .u8 5 ok w' (.slice A n c) n) ∧ Aside0 (Mu ok w w'))
  case atStart => exact ⟨0, (by first | rfl | simp), (by first | rfl | simp), by omega, Nat.zero_le _, HI, HU⟩
  case round =>
    clear HI HU
    obtain ⟨i, rfl, rfl, hki, hil, HI, HU⟩ := hrel
    by_cases hi : i < n
    case neg =>
      obtain rfl : i = n := by omega
      have ci : decide ((i : Int) < (i : Int)) = false := decide_eq_false (by omega)
      clear hi hki hil
      go_wp2
      go_ret
      exact ⟨rfl, HU.out⟩
    have p1 : 0 ≤ (i : Int) := Int.natCast_nonneg _
    have q1 : (i : Int) < (n : Int) := by omega
    have ci : decide ((i : Int) < (n : Int)) = true := decide_eq_true q1
    have hw1 : wrap64 (a + (i : Int) + 1) = a + ((i + 1 : Nat) : Int) := by have := HN.out; have := H0.out; rw [wrap_small (by omega) (by omega)]; omega
    have hw2 : wrap64 ((i : Int) + 1) = ((i + 1 : Nat) : Int) := by have := HN.out; have := H0.out; rw [wrap_small (by omega) (by omega)]; omega
    obtain ⟨g, cur, x, rfl, hok, hh, hx⟩ := HI.out.at hi
    have hf := blk_frozen hh i
    have HP := Aside0.mk (Mu.set hh hx hok ((a + (i : Int)) % 256))
    have HJ := Aside0.mk hi
    have HKI := Aside0.mk hki
    clear hi hki hil hok hh
    replace p1 := eq_true p1; replace q1 := eq_true q1
    go_wp2_with (first
      | ((with_reducible refine gate_store (t := 5) (p := 16) rfl ?_); refine store_event (t := 5) (p := 16) (v := ?vo_w8) (w1 := (wr.setCell ⟨g, i, none⟩ (.int .u8 ((a + (i : Int)) % 256)))) ?hg ?ho ?hn ?hr ?_; (case ho => rfl); (case hg => rfl); (case hn => rfl); (case hr => first | (go_simp; done) | (go_simp; rfl)); intro w8 hw; have hm8 : MS.Mu ok wr w8 := (by rw [hw]; exact HP.out); replace HU := Aside0.mk (HU.out.trans hm8); replace HI := Aside0.mk (HI.out.mu hm8); clear hm8 hw hx hf HP)
      | fail)
    go_roundg (n - i)
    case measure => have := HJ.out; have := HKI.out; omega
    case rel => exact ⟨i + 1, (by first | rfl | (simp only [hw1]) | (simp [hw1])), (by first | rfl | (simp only [hw2]) | (simp [hw2])), by have := HJ.out; have := HKI.out; omega, by have := HJ.out; omega, HI, HU⟩
set_option maxHeartbeats 8000000 in
set_option maxRecDepth 100000 in
theorem MS.ints (ok : Nat → Prop) (v : Value) (n : Nat) (a : Int) (w : World) (hI : I .i64 2 ok w v n) (ha : 0 ≤ a) (hn : a + (n : Int) ≤ 4611686018427387904) :
    Calls Try.prog 37 #[v, .int .i64 a] w fun e w' => e = .returned (.int .i64 (a + (n : Int))) ∧ Mu ok w w' := by
  obtain ⟨A, c, rfl, hA⟩ := hI
  have HI := Aside0.mk (show I .i64 2 ok w (.slice A n c) n from ⟨A, c, rfl, hA⟩)
  have HN := Aside0.mk hn
  have H0 := Aside0.mk ha
  clear hA hn ha
  have HU := Aside0.mk (Mu.refl ok w)
  go_enter Try.func37, Try.ntmps37
  go_wp2
  go_loopg [1, 5] (n + 1) (fun kq v1 v5 w' => ∃ i : Nat, v1 = .int .i64 (a + (i : Int)) ∧ v5 = .int .i64 (i : Int) ∧ kq + i = n + 1 ∧ i ≤ n ∧ Aside0 (I .i64 2 ok w' (.slice A n c) n) ∧ Aside0 (Mu ok w w'))
  case atStart => exact ⟨0, (by first | rfl | simp), (by first | rfl | simp), by omega, Nat.zero_le _, HI, HU⟩
  case round =>
    clear HI HU
    obtain ⟨i, rfl, rfl, hki, hil, HI, HU⟩ := hrel
    by_cases hi : i < n
    case neg =>
      obtain rfl : i = n := by omega
      have ci : decide ((i : Int) < (i : Int)) = false := decide_eq_false (by omega)
      clear hi hki hil
      go_wp2
      go_ret
      exact ⟨rfl, HU.out⟩
    have p1 : 0 ≤ (i : Int) := Int.natCast_nonneg _
    have q1 : (i : Int) < (n : Int) := by omega
    have ci : decide ((i : Int) < (n : Int)) = true := decide_eq_true q1
    have hw1 : wrap64 (a + (i : Int) + 1) = a + ((i + 1 : Nat) : Int) := by have := HN.out; have := H0.out; rw [wrap_small (by omega) (by omega)]; omega
    have hw2 : wrap64 ((i : Int) + 1) = ((i + 1 : Nat) : Int) := by have := HN.out; have := H0.out; rw [wrap_small (by omega) (by omega)]; omega
    obtain ⟨g, cur, x, rfl, hok, hh, hx⟩ := HI.out.at hi
    have hf := blk_frozen hh i
    have HP := Aside0.mk (Mu.set hh hx hok (a + (i : Int)))
    have HJ := Aside0.mk hi
    have HKI := Aside0.mk hki
    clear hi hki hil hok hh
    replace p1 := eq_true p1; replace q1 := eq_true q1
    go_wp2_with (first
      | ((with_reducible refine gate_store (t := 2) (p := 15) rfl ?_); refine store_event (t := 2) (p := 15) (v := ?vo_w8) (w1 := (wr.setCell ⟨g, i, none⟩ (.int .i64 (a + (i : Int))))) ?hg ?ho ?hn ?hr ?_; (case ho => rfl); (case hg => rfl); (case hn => rfl); (case hr => first | (go_simp; done) | (go_simp; rfl)); intro w8 hw; have hm8 : MS.Mu ok wr w8 := (by rw [hw]; exact HP.out); replace HU := Aside0.mk (HU.out.trans hm8); replace HI := Aside0.mk (HI.out.mu hm8); clear hm8 hw hx hf HP)
      | fail)
    go_roundg (n - i)
    case measure => have := HJ.out; have := HKI.out; omega
    case rel => exact ⟨i + 1, (by first | rfl | (simp only [hw1]) | (simp [hw1])), (by first | rfl | (simp only [hw2]) | (simp [hw2])), by have := HJ.out; have := HKI.out; omega, by have := HJ.out; omega, HI, HU⟩
set_option maxHeartbeats 8000000 in
set_option maxRecDepth 100000 in
theorem MS.homes (ok : Nat → Prop) (v : Value) (ls : List Nat) (a : Int) (w : World) (hI : H ok w v ls) (ha : 0 ≤ a) (hn : a + (sh ls : Int) ≤ 4611686018427387904) :
    Calls Try.prog 19 #[v, .int .i64 a] w fun e w' => e = .returned (.int .i64 (a + (sh ls : Int))) ∧ Mu ok w w' := by
  obtain ⟨A, c, rfl, hA⟩ := hI
  have HI := Aside0.mk (show H ok w (.slice A ls.length c) ls from ⟨A, c, rfl, hA⟩)
  have HN := Aside0.mk hn
  have H0 := Aside0.mk ha
  clear hA hn ha
  have HU := Aside0.mk (Mu.refl ok w)
  have hu61 := Try.underlying61
  go_enter Try.func19, Try.ntmps19
  go_wp2
  go_loopg [1, 5] (ls.length + 1) (fun kq v1 v5 w' => ∃ i : Nat, v1 = .int .i64 (a + ((sh (ls.take i) : Nat) : Int)) ∧ v5 = .int .i64 (i : Int) ∧ kq + i = ls.length + 1 ∧ i ≤ ls.length ∧ Aside0 (H ok w' (.slice A ls.length c) ls) ∧ Aside0 (Mu ok w w'))
  case atStart => exact ⟨0, (by first | rfl | simp [sh]), (by first | rfl | simp), by omega, Nat.zero_le _, HI, HU⟩
  case round =>
    clear HI HU
    obtain ⟨i, rfl, rfl, hki, hil, HI, HU⟩ := hrel
    by_cases hi : i < ls.length
    case neg =>
      obtain rfl : i = ls.length := by omega
      have ci : decide ((ls.length : Int) < (ls.length : Int)) = false := decide_eq_false (by omega)
      rw [List.take_length]
      clear hi hki hil
      go_wp2
      go_ret
      exact ⟨rfl, HU.out⟩
    have p1 : 0 ≤ (i : Int) := Int.natCast_nonneg _
    have q1 : (i : Int) < (ls.length : Int) := by omega
    have ci : decide ((i : Int) < (ls.length : Int)) = true := decide_eq_true q1
    have hst := sh_take hi
    have hle := sh_le ls (i + 1)
    have hle2 : ls.length ≤ sh ls := by unfold sh; omega
    obtain ⟨a1, ha1⟩ : ∃ a1 : Int, a + ((sh (ls.take i) : Nat) : Int) = a1 := ⟨_, rfl⟩
    have hw1 : wrap64 (a1 + 1) = a1 + 1 := by have := HN.out; have := H0.out; rw [wrap_small (by omega) (by omega)]
    have hw2 : wrap64 ((i : Int) + 1) = ((i + 1 : Nat) : Int) := by have := HN.out; have := H0.out; rw [wrap_small (by omega) (by omega)]; omega
    have hw3 : a1 + 1 + (ls[i] : Int) = a + ((sh (ls.take (i + 1)) : Nat) : Int) := by omega
    have HAB := Aside0.mk (show 0 ≤ a1 + 1 ∧ a1 + 1 + (ls[i] : Int) ≤ 4611686018427387904 by have := HN.out; have := H0.out; omega)
    obtain ⟨g, cur, x, Au, cu, rfl, hok, hh, hx, -, -⟩ := HI.out.at hi
    have hf := blk_frozen hh (i * 2)
    have HP := Aside0.mk (Mu.set hh hx hok a1)
    have HJ := Aside0.mk hi
    have HKI := Aside0.mk hki
    have HW3 := Aside0.mk hw3
    clear hki hil hok hh hst hle hle2 hw3
    rw [ha1]
    clear ha1
    obtain ⟨m, hm⟩ : ∃ m, ls[i] = m := ⟨_, rfl⟩
    rw [hm] at HAB HW3
    have HM := Aside0.mk (show ∀ h : i < ls.length, ls[i] = m from fun _ => hm)
    clear hm hi
    replace p1 := eq_true p1; replace q1 := eq_true q1
    go_wp2_with (first
      | ((with_reducible refine gate_store (t := 2) (p := 16) rfl ?_); refine store_event (t := 2) (p := 16) (v := ?vo_w8) (w1 := (wr.setCell ⟨g, i * 2, none⟩ (.int .i64 a1))) ?hg ?ho ?hn ?hr ?_; (case ho => rfl); (case hg => rfl); (case hn => rfl); (case hr => first | (go_simp; done) | (go_simp; rfl)); intro w8 hw; have hm8 : MS.Mu ok wr w8 := (by rw [hw]; exact HP.out); replace HU := Aside0.mk (HU.out.trans hm8); replace HI := Aside0.mk (HI.out.mu hm8); clear hm8 hw hx hf HP; obtain ⟨g2, cur2, x2, Au2, cu2, eg2, -, -, -, hy, hI2⟩ := HI.out.at HJ.out; injection eg2 with eg2; injection eg2 with eg2 _ _; subst eg2; rw [HM.out HJ.out] at hy hI2; have HI2 := Aside0.mk hI2; clear hI2)
      | ((with_reducible refine gate_callee (f := 38) rfl ?_); refine Rgn.gl (some 25) Try.func38 #[.slice Au2 m cu2, .int .i64 (wrap64 (a1 + 1))] ?_; rw [hw1]; (refine (bytes ok _ m (a1 + 1) _ HI2.out HAB.out.1 HAB.out.2).mono ?_); rintro e w9 ⟨rfl, hm9⟩; refine ⟨_, rfl, ?_⟩; rw [HW3.out]; replace HU := Aside0.mk (HU.out.trans hm9); replace HI := Aside0.mk (HI.out.mu hm9); clear hm9 hy HI2)
      | fail)
    go_roundg (ls.length - i)
    case measure => have := HJ.out; have := HKI.out; omega
    case rel => exact ⟨i + 1, (by first | rfl | simp), (by first | rfl | (simp only [hw2]) | (simp [hw2])), by have := HJ.out; have := HKI.out; omega, by have := HJ.out; omega, HI, HU⟩
set_option maxHeartbeats 8000000 in
set_option maxRecDepth 100000 in
theorem MS.txns (ok : Nat → Prop) (v : Value) (ts : List (List Nat × Nat)) (a : Int) (w : World) (hI : T ok w v ts) (ha : 0 ≤ a) (hn : a + (st ts : Int) ≤ 4611686018427387904) (hl : ts.length ≤ 4611686018427387904) :
    Calls Try.prog 18 #[v, .int .i64 a] w fun e w' => e = .returned (.int .i64 (a + (st ts : Int))) ∧ Mu ok w w' := by
  obtain ⟨A, c, rfl, hA⟩ := hI
  have HI := Aside0.mk (show T ok w (.slice A ts.length c) ts from ⟨A, c, rfl, hA⟩)
  have HN := Aside0.mk hn
  have H0 := Aside0.mk ha
  have HL := Aside0.mk hl
  clear hA hn ha hl
  have HU := Aside0.mk (Mu.refl ok w)
  have hu34 := Try.underlying34
  go_enter Try.func18, Try.ntmps18
  go_wp2
  go_loopg [1, 5] (ts.length + 1) (fun kq v1 v5 w' => ∃ i : Nat, v1 = .int .i64 (a + ((st (ts.take i) : Nat) : Int)) ∧ v5 = .int .i64 (i : Int) ∧ kq + i = ts.length + 1 ∧ i ≤ ts.length ∧ Aside0 (T ok w' (.slice A ts.length c) ts) ∧ Aside0 (Mu ok w w'))
  case atStart => exact ⟨0, (by first | rfl | simp [st]), (by first | rfl | simp), by omega, Nat.zero_le _, HI, HU⟩
  case round =>
    clear HI HU
    obtain ⟨i, rfl, rfl, hki, hil, HI, HU⟩ := hrel
    by_cases hi : i < ts.length
    case neg =>
      obtain rfl : i = ts.length := by omega
      have ci : decide ((ts.length : Int) < (ts.length : Int)) = false := decide_eq_false (by omega)
      rw [List.take_length]
      clear hi hki hil
      go_wp2
      go_ret
      exact ⟨rfl, HU.out⟩
    have p1 : 0 ≤ (i : Int) := Int.natCast_nonneg _
    have q1 : (i : Int) < (ts.length : Int) := by omega
    have ci : decide ((i : Int) < (ts.length : Int)) = true := decide_eq_true q1
    have hst := st_take hi
    have hle := st_le ts (i + 1)
    obtain ⟨a1, ha1⟩ : ∃ a1 : Int, a + ((st (ts.take i) : Nat) : Int) = a1 := ⟨_, rfl⟩
    have hw1 : wrap64 (a1 + 1) = a1 + 1 := by have := HN.out; have := H0.out; rw [wrap_small (by omega) (by omega)]
    have hw2 : wrap64 ((i : Int) + 1) = ((i + 1 : Nat) : Int) := by have := HL.out; rw [wrap_small (by omega) (by omega)]; omega
    have hw3 : a1 + 1 + (sh ts[i].1 : Int) + (ts[i].2 : Int) = a + ((st (ts.take (i + 1)) : Nat) : Int) := by omega
    have HAB := Aside0.mk (show 0 ≤ a1 + 1 ∧ a1 + 1 + (sh ts[i].1 : Int) + (ts[i].2 : Int) ≤ 4611686018427387904 by have := HN.out; have := H0.out; omega)
    obtain ⟨g, cur, x, Au, cu, Ar, cr, rfl, hok, hh, hx, -, -, -, -⟩ := HI.out.at hi
    have hf := blk_frozen hh (i * 3)
    have HP := Aside0.mk (Mu.set hh hx hok a1)
    have HJ := Aside0.mk hi
    have HKI := Aside0.mk hki
    have HW3 := Aside0.mk hw3
    clear hki hil hok hh hst hle hw3
    rw [ha1]
    clear ha1
    obtain ⟨m, hm⟩ : ∃ m, ts[i] = m := ⟨_, rfl⟩
    rw [hm] at HAB HW3
    have HM := Aside0.mk (show ∀ h : i < ts.length, ts[i] = m from fun _ => hm)
    clear hm hi
    replace p1 := eq_true p1; replace q1 := eq_true q1
    go_wp2_with (first
      | ((with_reducible refine gate_store (t := 2) (p := 16) rfl ?_); refine store_event (t := 2) (p := 16) (v := ?vo_w8) (w1 := (wr.setCell ⟨g, i * 3, none⟩ (.int .i64 a1))) ?hg ?ho ?hn ?hr ?_; (case ho => rfl); (case hg => rfl); (case hn => rfl); (case hr => first | (go_simp; done) | (go_simp; rfl)); intro w8 hw; have hm8 : MS.Mu ok wr w8 := (by rw [hw]; exact HP.out); replace HU := Aside0.mk (HU.out.trans hm8); replace HI := Aside0.mk (HI.out.mu hm8); clear hm8 hw hx hf HP; obtain ⟨g2, cur2, x2, Au2, cu2, Ar2, cr2, eg2, -, -, -, hy, hI2, -, -⟩ := HI.out.at HJ.out; injection eg2 with eg2; injection eg2 with eg2 _ _; subst eg2; rw [HM.out HJ.out] at hy hI2; have HI2 := Aside0.mk hI2; clear hI2)
      | ((with_reducible refine gate_callee (f := 19) rfl ?_); refine Rgn.gl (some 25) Try.func19 #[.slice Au2 m.1.length cu2, .int .i64 (wrap64 (a1 + 1))] ?_; rw [hw1]; (refine (homes ok _ m.1 (a1 + 1) _ HI2.out HAB.out.1 (by have := HAB.out.2; omega)).mono ?_); rintro e w9 ⟨rfl, hm9⟩; refine ⟨_, rfl, ?_⟩; replace HU := Aside0.mk (HU.out.trans hm9); replace HI := Aside0.mk (HI.out.mu hm9); clear hm9 hy HI2; obtain ⟨g3, cur3, x3, Au3, cu3, Ar3, cr3, eg3, -, -, -, -, -, hz, hI3⟩ := HI.out.at HJ.out; injection eg3 with eg3; injection eg3 with eg3 _ _; subst eg3; rw [HM.out HJ.out] at hz hI3; have HI3 := Aside0.mk hI3; clear hI3; obtain ⟨a2, ha2⟩ : ∃ a2 : Int, a1 + 1 + (sh m.1 : Int) = a2 := ⟨_, rfl⟩; rw [ha2] at HAB HW3 ⊢; have HA2 := Aside0.mk (show 0 ≤ a2 by have := HAB.out.1; omega); clear ha2)
      | ((with_reducible refine gate_callee (f := 37) rfl ?_); refine Rgn.gl (some 32) Try.func37 #[.slice Ar3 m.2 cr3, .int .i64 a2] ?_; (refine (ints ok _ m.2 a2 _ HI3.out HA2.out HAB.out.2).mono ?_); rintro e w9 ⟨rfl, hm9⟩; refine ⟨_, rfl, ?_⟩; rw [HW3.out]; replace HU := Aside0.mk (HU.out.trans hm9); replace HI := Aside0.mk (HI.out.mu hm9); clear hm9 hz HI3)
      | fail)
    go_roundg (ts.length - i)
    case measure => have := HJ.out; have := HKI.out; omega
    case rel => exact ⟨i + 1, (by first | rfl | simp), (by first | rfl | (simp only [hw2]) | (simp [hw2])), by have := HJ.out; have := HKI.out; omega, by have := HJ.out; omega, HI, HU⟩


/-! ### laws_heldByteS: function 39 -/
def laws_heldByteS.l0 : Nat → List Int → Int → Int → Option (Int)
 | 0, _, _, _ => none
 | k + 1, x0, x1, x5 => if x5 < (x0.length : Int) then (if 0 ≤ x5 then (if (rd x0 x5) = ((x1) % 256) then (laws_heldByteS.l0 k x0 (wrap64 (x1 + 1)) (wrap64 (x5 + 1))) else (some (-1))) else (none)) else (some x1)
def laws_heldByteS.f (k : Nat) (l0 : List Int) (a1 : Int) : Option (Int) := laws_heldByteS.l0 k l0 a1 0
set_option maxHeartbeats 8000000 in
set_option maxRecDepth 100000 in
theorem laws_heldByteS.calls (k : Nat) (A0 : Option Addr) (c0 : Nat) (l0 : List Int) (a1 : Int) (r : Int) (w : World) (hr0 : Kd.C (Kd.int .u8) w A0 l0.length l0) (hc0 : l0.length ≤ c0) (h : laws_heldByteS.f k l0 a1 = some r) :
  Calls Try.prog 39 #[.slice A0 l0.length c0, .int .i64 a1] w fun e w' => e = .returned (.int .i64 r) ∧ Drawn0 w w' := by
 have HR0 := Aside0.mk hr0
 have HC0 := Aside0.mk hc0
 clear hr0 hc0
 have H : (laws_heldByteS.l0 k l0 a1 0) = some r := h
 clear h
 have H' := Aside0.mk H
 clear H
 go_enter Try.func39, Try.ntmps39
 go_wp2
 go_loopg [1, 5] k (fun kq v1 v5 w' => ∃ (x1_1 : Int) (x5_1 : Int), v1 = .int .i64 x1_1 ∧ v5 = .int .i64 x5_1 ∧ Aside0 (laws_heldByteS.l0 kq l0 x1_1 x5_1 = some r) ∧ Aside0 (kq ≤ k) ∧ Drawn0 w w')
 case atStart => exact ⟨(a1), (0), (by first | rfl | (simp; done) | (simp [*]; done)), (by first | rfl | (simp; done) | (simp [*]; done)), H', ⟨Nat.le_refl _⟩, by repeat (first | exact Drawn0.refl _ | apply Drawn0.step)⟩
 case round =>
  clear H'
  try clear p2
  obtain ⟨x1_1, x5_1, rfl, rfl, HA, HK1, ⟨m1, rfl⟩⟩ := hrel
  cases gk with
  | zero => exact absurd HA.out (by simp [laws_heldByteS.l0])
  | succ k1 =>
   have H := HA.out
   clear HA
   simp only [laws_heldByteS.l0] at H
   by_cases c3 : x5_1 < (l0.length : Int)
   ·
    rw [if_pos c3] at H
    have c3b0 : decide (x5_1 < (l0.length : Int)) = true := decide_eq_true c3
    clear c3
    by_cases c4 : 0 ≤ x5_1
    ·
     rw [if_pos c4] at H
     have c4b0 : decide (0 ≤ x5_1) = true := decide_eq_true c4
     clear c4
     by_cases c5 : (rd l0 x5_1) = ((x1_1) % 256)
     ·
      rw [if_pos c5] at H
      have c5b0 : ((rd l0 x5_1) == ((x1_1) % 256)) = true := beq_iff_eq.mpr c5
      have c5b1 : ((rd l0 x5_1) != ((x1_1) % 256)) = false := bne_eq_false_iff_eq.mpr c5
      clear c5
      have H' := Aside0.mk H
      clear H
      have p239 : 0 ≤ (x5_1 : Int) := of_decide_eq_true (by first | (with_reducible assumption) | assumption)
      have q239 : x5_1 < (l0.length : Int) := of_decide_eq_true (by first | (with_reducible assumption) | assumption)
      obtain ⟨ad239, e239, hx239_0⟩ := Kd.at_int HR0.out x5_1 p239 q239
      cases e239
      replace p239 := eq_true p239
      replace q239 := eq_true q239
      go_wp2
      go_roundg k1
      case measure => have := HK1.out; omega
      case rel => exact ⟨(wrap64 (x1_1 + 1)), (wrap64 (x5_1 + 1)), (by first | rfl | (simp; done) | (simp [*]; done)), (by first | rfl | (simp; done) | (simp [*]; done)), H', ⟨by have := HK1.out; omega⟩, by repeat (first | exact Drawn0.refl _ | apply Drawn0.step)⟩
     ·
      rw [if_neg c5] at H
      have c5b0 : ((rd l0 x5_1) == ((x1_1) % 256)) = false := beq_eq_false_iff_ne.mpr c5
      have c5b1 : ((rd l0 x5_1) != ((x1_1) % 256)) = true := bne_iff_ne.mpr c5
      obtain rfl := Option.some.inj H
      have p239 : 0 ≤ (x5_1 : Int) := of_decide_eq_true (by first | (with_reducible assumption) | assumption)
      have q239 : x5_1 < (l0.length : Int) := of_decide_eq_true (by first | (with_reducible assumption) | assumption)
      obtain ⟨ad239, e239, hx239_0⟩ := Kd.at_int HR0.out x5_1 p239 q239
      cases e239
      replace p239 := eq_true p239
      replace q239 := eq_true q239
      go_wp2
      go_ret
      exact ⟨by first | rfl | (simp; done) | (simp [*]; done), by repeat (first | exact Drawn0.refl _ | apply Drawn0.step)⟩
    ·
     rw [if_neg c4] at H
     exact absurd H (by simp)
   ·
    rw [if_neg c3] at H
    have c3b0 : decide (x5_1 < (l0.length : Int)) = false := decide_eq_false c3
    clear c3
    obtain rfl := Option.some.inj H
    go_wp2
    go_ret
    exact ⟨by first | rfl | (simp; done) | (simp [*]; done), by repeat (first | exact Drawn0.refl _ | apply Drawn0.step)⟩

end Go.Proofs.Ytkehfdadplpaeaa.PFnExactSurvivors
