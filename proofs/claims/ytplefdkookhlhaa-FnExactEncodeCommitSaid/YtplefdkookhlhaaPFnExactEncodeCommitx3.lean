-- written by a program of this session (wip/src/print2.py)
import Derived.Test.YtplefdkookhlhaaPFnExactEncodeCommitx0
import Derived.Test.YtplefdkookhlhaaPFnExactEncodeCommitx1
import Derived.Test.YtplefdkookhlhaaPFnExactEncodeCommitx2
namespace Go.Proofs.Ytplefdkookhlhaa.PFnExactEncodeCommit
open Go.RowKit Go.Proofs.YtplefdkookhlhaaW.PrintWords Go.Proofs.YtplefdkookhlhaaW.PrintLast Go.Proofs.YtplefdkookhlhaaW.PrintMore
attribute [local go_sem] max2_int min2_int max_two min_two max_three min_three max_four min_four   -- for this text's walks alone
set_option linter.unusedVariables false
set_option linter.unusedSimpArgs false

/-! ### impl_head: function 61 -/
section
open Go.Proofs.Ytplefdkookhlhaa.Cpy
/-- The header of a journal's block: the magic, the kind, the count, the sequence number, zeros behind. -/
def impl_head.f (k : Nat) (a0 : Int) (a1 : Int) (a2 : Int) : Option (List Int) := (impl_put.f k ((splice (List.replicate 64 0) 0 [106, 108, 111, 103]).set 4 (a0 % 256)) 6 a1 2).bind fun t => impl_put.f k t 8 a2 4
theorem impl_head.mono : ∀ a0 a1 a2 k, LeO (impl_head.f k a0 a1 a2) (impl_head.f (k + 1) a0 a1 a2) := fun _ _ _ k => LeO.bind (impl_put.mono _ _ _ _ k) (fun _ => impl_put.mono _ _ _ _ k)
theorem impl_head.bytes : bytesOf (⟨#[106, 108, 111, 103]⟩ : ByteArray) = [106, 108, 111, 103] := by rfl
theorem impl_head.len : (splice (List.replicate 64 (0 : Int)) 0 [106, 108, 111, 103]).length = 64 := by rfl
set_option maxHeartbeats 8000000 in
set_option maxRecDepth 100000 in
theorem impl_head.image (k : Nat) (a0 : Int) (a1 : Int) (a2 : Int) (r : List Int) (w : World) (h : impl_head.f k a0 a1 a2 = some r) :
    Calls Try.prog 76 #[.agg #[.int .i64 a0, .int .i64 a1, .int .i64 a2]] w fun e w' => ∃ v0_ : Value, e = .returned (v0_) ∧ Kd.R (Kd.int .u8) 5 w' w.heap.size (fun _ => True) v0_ r ∧ Below w.heap.size w w' := by
  obtain ⟨t, A1, A2⟩ := Option.bind_eq_some_iff.mp h
  clear h
  have C1 := Aside0.mk A1
  have C2 := Aside0.mk A2
  clear A1 A2
  have HB := Aside0.mk (Below.refl w.heap.size w)
  go_enter Try.func76, Try.ntmps76
  go_wp2_with (first
    | ((with_reducible refine gate_dst (N := 1) rfl ?_); refine box_event ?hg (N := 1) ?hd (cs := #[.int .i64 a0, .int .i64 a1, .int .i64 a2]) (t := 93) ?hr ?_; (case hd => rfl); (case hg => rfl); (case hr => first | (go_simp; done) | (go_simp; rfl)); intro gb hgb w1 hbox hb; have HG := Aside0.mk (show w.heap.size ≤ gb ∧ gb < w1.heap.size from ⟨by omega, blk_lt hbox⟩); have BK := Aside0.mk hbox; have HB1 := Aside0.mk (below_step HB.out hb); clear HB hb hbox hgb)
    | ((with_reducible refine gate_dst (N := 4) rfl ?_); refine Kd.R_make (Kd.int .u8) (w0 := w) w.heap.size 5 rfl (N := 4) rfl 23 _ _ rfl (64 : Int) rfl rfl Try.underlying23 (.int .u8 0) 1 info5 rfl (by decide) (by omega) (0 : Int) (ok := fun _ => True) (okp := fun _ => True) rfl (fun _ hk => hk) trivial (by decide) (by decide) HB1.out HB1.out.size ?_; intro v2 w2 ho hb hg hnew; obtain ⟨g, cap, ev, gb2, gl2, cl2, hg2⟩ := Kd.R_form ho (by decide); subst ev; have hgg : w1.heap.size ≤ g := (by obtain ⟨b, hb1, hb2⟩ := hnew; cases hb1; exact hb2); have HG2 := Aside0.mk hgg; have BK2 := Aside0.mk (blk_grown BK.out hg (by simp)); have HO2 := Aside0.mk ho; have HB2 := Aside0.mk hb; have HGB := Aside0.mk gb2; clear HB1 ho hb hg hnew hgg gb2 gl2 cl2 hg2 BK)
    | (refine Cpy.wpList_copy_str rfl (.tmp 5) (.const (.string ⟨#[106, 108, 111, 103]⟩)) 23 9 rfl Try.underlying23 (by kernel_rfl) 64 cap rfl ⟨#[106, 108, 111, 103]⟩ rfl (by decide) HO2.out (by decide) ?_; intro w3 ho hg; rw [impl_head.bytes] at ho; have BK3 := Aside0.mk (blk_grown BK2.out hg (by have := HG2.out; have := HG.out; intro e; have e2 : gb = g := Option.some.inj e; omega)); have HB3 := Aside0.mk (Box.below_grown HB2.out hg HGB.out); have HO3 := Aside0.mk ho; have hcf := Kd.R_celln 0 ho 4 (by decide) (by decide); obtain ⟨hx4, hf4⟩ := hcf; simp only [show (4 : Int).toNat = 4 from rfl] at hx4 hf4; have HP := Aside0.mk (Kd.R_putg ho 4 (a0 % 256)); have hc3 := blk_cell BK3.out; clear HO2 HB2 BK2 ho hg)
    | ((with_reducible refine gate_store (t := 5) (p := 11) rfl ?_); refine store_event (t := 5) (p := 11) (v := ?vo) (w1 := (w3.setCell ⟨g, 4, none⟩ (.int .u8 (a0 % 256)))) ?hg ?ho ?hn ?hr ?_; (case ho => rfl); (case hg => rfl); (case hn => rfl); (case hr => first | (go_simp; done) | (go_simp; rfl)); intro w4 hw; have hg : w3.grownBy w4 (some g) := (by rw [hw]; exact HP.out.2); have ho : Kd.R (Kd.int .u8) 5 w4 w.heap.size (fun _ => True) (.slice (some ⟨g, 0, none⟩) 64 cap) ((splice (List.replicate 64 0) 0 [106, 108, 111, 103]).set 4 (a0 % 256)) := (by rw [hw]; exact HP.out.1); have BK4 := Aside0.mk (blk_grown BK3.out hg (by have := HG2.out; have := HG.out; intro e; have e2 : gb = g := Option.some.inj e; omega)); have HB4 := Aside0.mk (Box.below_grown HB3.out hg HGB.out); have HO4 := Aside0.mk ho; clear hx4 hf4 HP hc3; have hc4 := blk_cell BK4.out; clear HO3 HB3 BK3 ho hg hw)
    | ((with_reducible refine gate_callee (f := 54) rfl ?_); refine goesL_ (some 15) rfl rfl Try.func54 (by kernel_rfl) rfl #[.slice (some ⟨g, 0, none⟩) 64 cap, .int .i64 6, .int .i64 a1, .int .i64 2] rfl (by (try simp only [List.map_toArray, List.map_cons, List.map_nil]); first | done | rfl) ?_; (with_reducible refine (impl_put.calls k (fun k => some k = (Value.slice (some ⟨g, 0, none⟩) 64 cap).ownBlock) _ _ 6 a1 2 t w _ HB4.out (Kd.R_tight rfl HO4.out) C1.out).mono ?_); rintro e w5 ⟨rfl, ho, hb, hk⟩; refine ⟨_, rfl, ?_⟩; have BK5 := Aside0.mk (blk_kept BK4.out hk (by have := HG2.out; have := HG.out; intro e; have e2 : gb = g := Option.some.inj e; omega)); have HB5 := Aside0.mk hb; have HO5 := Aside0.mk (Kd.R_tight rfl ho); clear hc4; have hc5 := blk_cell BK5.out; clear HO4 HB4 BK4 ho hb hk)
    | ((with_reducible refine gate_callee (f := 54) rfl ?_); refine goesL_ (some 19) rfl rfl Try.func54 (by kernel_rfl) rfl #[.slice (some ⟨g, 0, none⟩) 64 cap, .int .i64 8, .int .i64 a2, .int .i64 4] rfl (by (try simp only [List.map_toArray, List.map_cons, List.map_nil]); first | done | rfl) ?_; (with_reducible refine (impl_put.calls k (fun k => some k = (Value.slice (some ⟨g, 0, none⟩) 64 cap).ownBlock) _ _ 8 a2 4 r w _ HB5.out HO5.out C2.out).mono ?_); rintro e w6 ⟨rfl, ho, hb, hk⟩; refine ⟨_, rfl, ?_⟩; have HB6 := Aside0.mk hb; have HO6 := Aside0.mk (Kd.R_mono ho (fun _ _ => trivial)); clear hc5 HO5 HB5 BK5 ho hb hk)
    | fail)
  go_ret
  exact ⟨_, rfl, HO6.out, HB6.out⟩
set_option maxHeartbeats 8000000 in
set_option maxRecDepth 100000 in
theorem impl_head.calls (k : Nat) (a0 : Int) (a1 : Int) (a2 : Int) (r : List Int) (w : World) (h : impl_head.f k a0 a1 a2 = some r) :
    Calls Try.prog 61 #[.int .i64 a0, .int .i64 a1, .int .i64 a2] w fun e w' => ∃ v0_ : Value, e = .returned (v0_) ∧ Kd.R (Kd.int .u8) 5 w' w.heap.size (fun _ => True) v0_ r ∧ Below w.heap.size w w' := by
  have C1 := Aside0.mk h
  clear h
  have hfd : ∀ (x1 x2 x3 : Int) (W : World), (Instr.field 95 (.agg #[.int .i64 x1, .int .i64 x2, .int .i64 x3, .slice none 0 0]) 0).run Try.prog W = .ok (.agg #[.int .i64 x1, .int .i64 x2, .int .i64 x3]) W := fun _ _ _ _ => by kernel_rfl
  go_enter Try.func61, Try.ntmps61
  go_wp2_with (first
    | (go_at_call 76; (with_reducible refine (impl_head.image k a0 a1 a2 r _ C1.out).mono ?_); rintro e w6 ⟨v0, rfl, ho, hb⟩; have HB6 := Aside0.mk hb; have HO6 := Aside0.mk ho; clear ho hb)
    | fail)
  go_ret
  exact ⟨_, rfl, HO6.out, HB6.out⟩
end


/-! ### impl_EncodeCommit: function 25 -/
def impl_EncodeCommit.j0 : Nat → Bool → Int → Int → Int → Option (List Int)
  | 0, _, _, _, _ => none
  | k + 1, x19, x190000, x190001, x190002 => if x19 = true then (some ([] : List Int)) else ((impl_head.f k 4 x190001 x190000).bind fun t193 => ((impl_put.f k t193 12 x190002 4).bind fun t196 => (some t196)))
def impl_EncodeCommit.f (k : Nat) (a0_0 : Int) (a0_1 : Int) (a0_2 : Int) : Option (List Int) := (impl_in.f a0_0 1 4294967295).bind fun t190 => (if t190 = true then ((impl_in.f a0_1 1 511).bind fun t191 => (if t191 = true then ((impl_in.f a0_2 0 4294967295).bind fun t192 => (impl_EncodeCommit.j0 k (!t192) a0_0 a0_1 a0_2)) else (impl_EncodeCommit.j0 k true a0_0 a0_1 a0_2))) else (impl_EncodeCommit.j0 k true a0_0 a0_1 a0_2))
theorem impl_EncodeCommit.mono_l : ∀ k, (∀ y0 y1 y2 y3, LeO (impl_EncodeCommit.j0 k y0 y1 y2 y3) (impl_EncodeCommit.j0 (k + 1) y0 y1 y2 y3))
  | 0 => fun _ _ _ _ r h => by simp [impl_EncodeCommit.j0] at h
  | k + 1 => by
    have ih0 := impl_EncodeCommit.mono_l k
    · intro y0 y1 y2 y3
      unfold impl_EncodeCommit.j0
      repeat' first
      | (with_reducible exact ih0 _ _ _ _)
      | (with_reducible exact impl_head.mono _ _ _ _)
      | (with_reducible exact impl_put.mono _ _ _ _ _)
      | (with_reducible exact LeO.refl _)
      | (with_reducible exact LeO.none _)
      | (with_reducible refine LeO.ite ?_ ?_)
      | (with_reducible refine LeO.bind ?_ (fun _ => ?_))
      | exact ih0 _ _ _ _
      | exact impl_head.mono _ _ _ _
      | exact impl_put.mono _ _ _ _ _
      | exact LeO.none _
      | refine LeO.ite ?_ ?_
      | refine LeO.bind ?_ (fun _ => ?_)
theorem impl_EncodeCommit.mono : ∀ a0 a1 a2 k, LeO (impl_EncodeCommit.f k a0 a1 a2) (impl_EncodeCommit.f (k + 1) a0 a1 a2) := by
  intro a0 a1 a2 k
  have ih0 := impl_EncodeCommit.mono_l k
  unfold impl_EncodeCommit.f
  repeat' first
      | (with_reducible exact ih0 _ _ _ _)
      | (with_reducible exact impl_head.mono _ _ _ _)
      | (with_reducible exact impl_put.mono _ _ _ _ _)
      | (with_reducible exact LeO.refl _)
      | (with_reducible exact LeO.none _)
      | (with_reducible refine LeO.ite ?_ ?_)
      | (with_reducible refine LeO.bind ?_ (fun _ => ?_))
      | exact ih0 _ _ _ _
      | exact impl_head.mono _ _ _ _
      | exact impl_put.mono _ _ _ _ _
      | exact LeO.none _
      | refine LeO.ite ?_ ?_
      | refine LeO.bind ?_ (fun _ => ?_)
set_option maxHeartbeats 8000000 in
set_option maxRecDepth 100000 in
theorem impl_EncodeCommit.calls (k : Nat) (a0_0 : Int) (a0_1 : Int) (a0_2 : Int) (r : List Int) (w : World) (h : impl_EncodeCommit.f k a0_0 a0_1 a0_2 = some r) :
    Calls Try.prog 25 #[.agg #[.int .i64 a0_0, .int .i64 a0_1, .int .i64 a0_2]] w fun e w' => ∃ v0_ : Value, e = .returned (v0_) ∧ Kd.R (Kd.int .u8) 5 w' w.heap.size (fun _ => True) v0_ r ∧ Below w.heap.size w w' := by
  have hu37 := Try.underlying37
  have HB := Aside0.mk (Below.refl w.heap.size w)
  have H : ((impl_in.f a0_0 1 4294967295).bind fun t190 => (if t190 = true then ((impl_in.f a0_1 1 511).bind fun t191 => (if t191 = true then ((impl_in.f a0_2 0 4294967295).bind fun t192 => (impl_EncodeCommit.j0 k (!t192) a0_0 a0_1 a0_2)) else (impl_EncodeCommit.j0 k true a0_0 a0_1 a0_2))) else (impl_EncodeCommit.j0 k true a0_0 a0_1 a0_2))) = some r := h
  clear h
  have HC2 := Aside0.mk H
  clear H
  go_enter Try.func25, Try.ntmps25
  go_upto_region 1 with (first | ((with_reducible refine gate_dst (N := 1) rfl ?_); refine box_event ?hg (N := 1) ?hd (cs := #[.int .i64 a0_0, .int .i64 a0_1, .int .i64 a0_2]) (t := 37) ?hr ?_; (case hd => rfl); (case hg => rfl); (case hr => first | (go_simp; done) | (go_simp; rfl)); intro gb189 hg w3 hbox hb; have n0_ := Aside0.mk (below_step (by repeat (first | (with_reducible first | exact HB.out | apply below_alloc | apply pw_below_drewN | apply below_drew1) | exact HB.out)) hb); have n1_ := Aside0.mk (hbox); have n2_ := Aside0.mk ((by rw [hg]; exact (below_size (by repeat (first | (with_reducible first | exact HB.out | apply below_alloc | apply pw_below_drewN | apply below_drew1) | exact HB.out))) : w.heap.size ≤ gb189)); have n3_ := Aside0.mk ((by rw [hg]; exact (below_size (by repeat (first | (with_reducible first | exact HB.out | apply below_alloc | apply pw_below_drewN | apply below_drew1) | exact HB.out))) : w.heap.size ≤ gb189)); clear HB; have HB := n0_; have BK189 := n1_; have GW189 := n2_; have GE189 := n3_; clear n0_ n1_ n2_ n3_; clear hb hbox hg))
  (try simp only [Act.put, List.setIfInBounds_toArray, List.set_cons_zero, List.set_cons_succ])
  go_cut [19] (fun v19 wc => ∃ (kq : Nat) (x19_1 : Bool), v19 = .bool x19_1 ∧ Aside0 (impl_EncodeCommit.j0 kq x19_1 a0_0 a0_1 a0_2 = some r) ∧ Aside0 (kq ≤ k) ∧ Aside0 (wc.heap[gb189]? = some (.cells #[.int .i64 a0_0, .int .i64 a0_1, .int .i64 a0_2] 37 (0, 0))) ∧ Aside0 (Below w.heap.size w wc))
  case first =>
    have H := HC2.out
    clear HC2
    replace H := Option.bind_eq_some_iff.mp H
    obtain ⟨t190, A40, H⟩ := H
    replace H : (if t190 = true then ((impl_in.f a0_1 1 511).bind fun t191 => (if t191 = true then ((impl_in.f a0_2 0 4294967295).bind fun t192 => (impl_EncodeCommit.j0 k (!t192) a0_0 a0_1 a0_2)) else (impl_EncodeCommit.j0 k true a0_0 a0_1 a0_2))) else (impl_EncodeCommit.j0 k true a0_0 a0_1 a0_2)) = some r := H
    have A4 := Aside0.mk A40
    clear A40
    by_cases c5 : t190 = true
    · subst c5
      have H1 : ((impl_in.f a0_1 1 511).bind fun t191 => (if t191 = true then ((impl_in.f a0_2 0 4294967295).bind fun t192 => (impl_EncodeCommit.j0 k (!t192) a0_0 a0_1 a0_2)) else (impl_EncodeCommit.j0 k true a0_0 a0_1 a0_2))) = some r := by rw [if_pos rfl] at H; exact H
      clear H
      have H := H1
      clear H1
      replace H := Option.bind_eq_some_iff.mp H
      obtain ⟨t191, A60, H⟩ := H
      replace H : (if t191 = true then ((impl_in.f a0_2 0 4294967295).bind fun t192 => (impl_EncodeCommit.j0 k (!t192) a0_0 a0_1 a0_2)) else (impl_EncodeCommit.j0 k true a0_0 a0_1 a0_2)) = some r := H
      have A6 := Aside0.mk A60
      clear A60
      by_cases c7 : t191 = true
      · subst c7
        have H1 : ((impl_in.f a0_2 0 4294967295).bind fun t192 => (impl_EncodeCommit.j0 k (!t192) a0_0 a0_1 a0_2)) = some r := by rw [if_pos rfl] at H; exact H
        clear H
        have H := H1
        clear H1
        replace H := Option.bind_eq_some_iff.mp H
        obtain ⟨t192, A80, H⟩ := H
        replace H : (impl_EncodeCommit.j0 k (!t192) a0_0 a0_1 a0_2) = some r := H
        have A8 := Aside0.mk A80
        clear A80
        have H' := Aside0.mk H
        clear H
        have hcz9_0 : w3.cell? ⟨gb189, 0, none⟩ = some (.int .i64 a0_0) := (blk_cell BK189.out 0).trans rfl
        have hcz9_1 : w3.cell? ⟨gb189, 1, none⟩ = some (.int .i64 a0_1) := (blk_cell BK189.out 1).trans rfl
        have hcz9_2 : w3.cell? ⟨gb189, 2, none⟩ = some (.int .i64 a0_2) := (blk_cell BK189.out 2).trans rfl
        have hfz9_0 := blk_frozen BK189.out 0
        have hfz9_1 := blk_frozen BK189.out 1
        have hfz9_2 := blk_frozen BK189.out 2
        go_wp2_with (first | ((with_reducible refine gate_callee (f := 53) rfl ?_); refine goesL_ (some 6) rfl rfl Try.func53 (by kernel_rfl) rfl #[.int .i64 a0_0, .int .i64 1, .int .i64 4294967295] rfl (by (try simp only [List.map_toArray, List.map_cons, List.map_nil]); first | done | rfl | (simp only [List.length_drop, List.length_take]; rfl)) ?_; (with_reducible refine (impl_in.calls a0_0 1 4294967295 true _ A4.out).mono ?_); rintro e w' ⟨rfl, ⟨nd, rfl⟩⟩; refine ⟨_, rfl, ?_⟩) | (go_at_call 53; (with_reducible refine (impl_in.calls a0_1 1 511 true _ A6.out).mono ?_); rintro e w' ⟨rfl, ⟨nd, rfl⟩⟩) | (go_at_call 53; (with_reducible refine (impl_in.calls a0_2 0 4294967295 t192 _ A8.out).mono ?_); rintro e w' ⟨rfl, ⟨nd, rfl⟩⟩))
        go_meet
        case rel => exact ⟨_, (!t192), (by first | rfl | (simp; done) | (simp [*]; done)), H', ⟨by first | omega | exact Nat.le_refl _⟩, ⟨by (with_reducible repeat (first | refine blk_drewN ?_ _ | refine blk_drew ?_ | refine blk_alloc ?_ _)); exact BK189.out⟩, ⟨by repeat (first | (with_reducible first | exact HB.out | apply below_alloc | apply pw_below_drewN | apply below_drew1 | refine below_set ?_ GE189.out) | exact HB.out)⟩⟩
      · replace c7 := Bool.eq_false_iff.mpr c7
        subst c7
        have H1 : (impl_EncodeCommit.j0 k true a0_0 a0_1 a0_2) = some r := by rw [if_neg (show ¬ (false = true) by decide)] at H; exact H
        clear H
        have H := H1
        clear H1
        have H' := Aside0.mk H
        clear H
        have hcz10_0 : w3.cell? ⟨gb189, 0, none⟩ = some (.int .i64 a0_0) := (blk_cell BK189.out 0).trans rfl
        have hcz10_1 : w3.cell? ⟨gb189, 1, none⟩ = some (.int .i64 a0_1) := (blk_cell BK189.out 1).trans rfl
        have hcz10_2 : w3.cell? ⟨gb189, 2, none⟩ = some (.int .i64 a0_2) := (blk_cell BK189.out 2).trans rfl
        have hfz10_0 := blk_frozen BK189.out 0
        have hfz10_1 := blk_frozen BK189.out 1
        have hfz10_2 := blk_frozen BK189.out 2
        go_wp2_with (first | ((with_reducible refine gate_callee (f := 53) rfl ?_); refine goesL_ (some 6) rfl rfl Try.func53 (by kernel_rfl) rfl #[.int .i64 a0_0, .int .i64 1, .int .i64 4294967295] rfl (by (try simp only [List.map_toArray, List.map_cons, List.map_nil]); first | done | rfl | (simp only [List.length_drop, List.length_take]; rfl)) ?_; (with_reducible refine (impl_in.calls a0_0 1 4294967295 true _ A4.out).mono ?_); rintro e w' ⟨rfl, ⟨nd, rfl⟩⟩; refine ⟨_, rfl, ?_⟩) | (go_at_call 53; (with_reducible refine (impl_in.calls a0_1 1 511 false _ A6.out).mono ?_); rintro e w' ⟨rfl, ⟨nd, rfl⟩⟩))
        go_meet
        case rel => exact ⟨_, (true), (by first | rfl | (simp; done) | (simp [*]; done)), H', ⟨by first | omega | exact Nat.le_refl _⟩, ⟨by (with_reducible repeat (first | refine blk_drewN ?_ _ | refine blk_drew ?_ | refine blk_alloc ?_ _)); exact BK189.out⟩, ⟨by repeat (first | (with_reducible first | exact HB.out | apply below_alloc | apply pw_below_drewN | apply below_drew1 | refine below_set ?_ GE189.out) | exact HB.out)⟩⟩
    · replace c5 := Bool.eq_false_iff.mpr c5
      subst c5
      have H1 : (impl_EncodeCommit.j0 k true a0_0 a0_1 a0_2) = some r := by rw [if_neg (show ¬ (false = true) by decide)] at H; exact H
      clear H
      have H := H1
      clear H1
      have H' := Aside0.mk H
      clear H
      have hcz11_0 : w3.cell? ⟨gb189, 0, none⟩ = some (.int .i64 a0_0) := (blk_cell BK189.out 0).trans rfl
      have hcz11_1 : w3.cell? ⟨gb189, 1, none⟩ = some (.int .i64 a0_1) := (blk_cell BK189.out 1).trans rfl
      have hcz11_2 : w3.cell? ⟨gb189, 2, none⟩ = some (.int .i64 a0_2) := (blk_cell BK189.out 2).trans rfl
      have hfz11_0 := blk_frozen BK189.out 0
      have hfz11_1 := blk_frozen BK189.out 1
      have hfz11_2 := blk_frozen BK189.out 2
      go_wp2_with (first | ((with_reducible refine gate_callee (f := 53) rfl ?_); refine goesL_ (some 6) rfl rfl Try.func53 (by kernel_rfl) rfl #[.int .i64 a0_0, .int .i64 1, .int .i64 4294967295] rfl (by (try simp only [List.map_toArray, List.map_cons, List.map_nil]); first | done | rfl | (simp only [List.length_drop, List.length_take]; rfl)) ?_; (with_reducible refine (impl_in.calls a0_0 1 4294967295 false _ A4.out).mono ?_); rintro e w' ⟨rfl, ⟨nd, rfl⟩⟩; refine ⟨_, rfl, ?_⟩))
      go_meet
      case rel => exact ⟨_, (true), (by first | rfl | (simp; done) | (simp [*]; done)), H', ⟨by first | omega | exact Nat.le_refl _⟩, ⟨by (with_reducible repeat (first | refine blk_drewN ?_ _ | refine blk_drew ?_ | refine blk_alloc ?_ _)); exact BK189.out⟩, ⟨by repeat (first | (with_reducible first | exact HB.out | apply below_alloc | apply pw_below_drewN | apply below_drew1 | refine below_set ?_ GE189.out) | exact HB.out)⟩⟩
  case rest =>
    clear HC2
    try clear c2
    try clear p2
    try clear c5
    try clear c7
    try clear hcz10_0
    try clear hcz10_1
    try clear hcz10_2
    try clear hcz11_0
    try clear hcz11_1
    try clear hcz11_2
    try clear hcz9_0
    try clear hcz9_1
    try clear hcz9_2
    try clear hfz10_0
    try clear hfz10_1
    try clear hfz10_2
    try clear hfz11_0
    try clear hfz11_1
    try clear hfz11_2
    try clear hfz9_0
    try clear hfz9_1
    try clear hfz9_2
    obtain ⟨kq, x19_1, rfl, HA, HJ1, BK189, HB⟩ := hcut
    cases kq with
    | zero => exact absurd HA.out (by simp [impl_EncodeCommit.j0])
    | succ kj1 =>
      have H := HA.out
      clear HA
      simp only [impl_EncodeCommit.j0] at H
      by_cases c12 : x19_1 = true
      · subst c12
        have H1 : (some ([] : List Int)) = some r := by rw [if_pos rfl] at H; exact H
        clear H
        have H := H1
        clear H1
        obtain rfl := Option.some.inj H
        go_wp2
        go_ret
        exact ⟨_, by first | rfl | (simp [errW_none, errW_some] <;> rfl) | (simp [*, errW_none, errW_some] <;> rfl), by first | exact Kd.R_nil _ _ _ _ _ | exact Kd.N_nil _ _ _ _ _ | exact Kd.V_nil _ _ _ _ _ | exact Kd.Q_nil _ _ _ _ _ | exact Kd.S_nil _ _ _ _ _, by repeat (first | (with_reducible first | exact HB.out | apply below_alloc | apply pw_below_drewN | apply below_drew1 | refine below_set ?_ GE189.out) | exact HB.out)⟩
      · replace c12 := Bool.eq_false_iff.mpr c12
        subst c12
        have H1 : ((impl_head.f kj1 4 a0_1 a0_0).bind fun t193 => ((impl_put.f kj1 t193 12 a0_2 4).bind fun t196 => (some t196))) = some r := by rw [if_neg (show ¬ (false = true) by decide)] at H; exact H
        clear H
        have H := H1
        clear H1
        replace H := Option.bind_eq_some_iff.mp H
        obtain ⟨t193, A130, H⟩ := H
        replace H : ((impl_put.f kj1 t193 12 a0_2 4).bind fun t196 => (some t196)) = some r := H
        have A13 := Aside0.mk A130
        clear A130
        replace H := Option.bind_eq_some_iff.mp H
        obtain ⟨t196, A140, H⟩ := H
        replace H : (some t196) = some r := H
        have A14 := Aside0.mk A140
        clear A140
        obtain rfl := Option.some.inj H
        have hcz15_0 : wc.cell? ⟨gb189, 0, none⟩ = some (.int .i64 a0_0) := (blk_cell BK189.out 0).trans rfl
        have hcz15_1 : wc.cell? ⟨gb189, 1, none⟩ = some (.int .i64 a0_1) := (blk_cell BK189.out 1).trans rfl
        have hcz15_2 : wc.cell? ⟨gb189, 2, none⟩ = some (.int .i64 a0_2) := (blk_cell BK189.out 2).trans rfl
        have hfz15_0 := blk_frozen BK189.out 0
        have hfz15_1 := blk_frozen BK189.out 1
        have hfz15_2 := blk_frozen BK189.out 2
        go_wp2_with (first | ((with_reducible refine gate_callee (f := 61) rfl ?_); refine goesL_ (some 24) rfl rfl Try.func61 (by kernel_rfl) rfl #[.int .i64 4, .int .i64 a0_1, .int .i64 a0_0] rfl (by (try simp only [List.map_toArray, List.map_cons, List.map_nil]); first | done | rfl | (simp only [List.length_drop, List.length_take]; rfl)) ?_; (with_reducible refine (impl_head.calls kj1 4 a0_1 a0_0 t193 _ A13.out).mono ?_); rintro e w16 ⟨v194, rfl, ho0, hb⟩; refine ⟨_, rfl, ?_⟩; have n0_ := Aside0.mk (Kd.R_lower ho0 (below_size (by repeat (first | (with_reducible first | exact HB.out | apply below_alloc | apply pw_below_drewN | apply below_drew1 | refine below_set ?_ GE189.out) | exact HB.out)))); have n1_ := Aside0.mk (blk_below (g := gb189) (o := .cells #[.int .i64 a0_0, .int .i64 a0_1, .int .i64 a0_2] 37 (0, 0)) (by (with_reducible repeat (first | refine blk_drewN ?_ _ | refine blk_drew ?_ | refine blk_alloc ?_ _)); exact BK189.out) hb); have n2_ := Aside0.mk (below_step (by repeat (first | (with_reducible first | exact HB.out | apply below_alloc | apply pw_below_drewN | apply below_drew1 | refine below_set ?_ GE189.out) | exact HB.out)) hb); clear BK189; clear HB; have HO195 := n0_; have BK189 := n1_; have HB := n2_; clear n0_ n1_ n2_; (try clear hb); (try clear hb2); (try clear hk); (try clear hi); (try clear ho0); have hcz17_0 : w16.cell? ⟨gb189, 0, none⟩ = some (.int .i64 a0_0) := (blk_cell BK189.out 0).trans rfl; have hcz17_1 : w16.cell? ⟨gb189, 1, none⟩ = some (.int .i64 a0_1) := (blk_cell BK189.out 1).trans rfl; have hcz17_2 : w16.cell? ⟨gb189, 2, none⟩ = some (.int .i64 a0_2) := (blk_cell BK189.out 2).trans rfl; have hfz17_0 := blk_frozen BK189.out 0; have hfz17_1 := blk_frozen BK189.out 1; have hfz17_2 := blk_frozen BK189.out 2; obtain ⟨Ao18, co18, eo18⟩ := Kd.R_slice HO195.out; subst eo18) | ((with_reducible refine gate_callee (f := 54) rfl ?_); refine goesL_ (some 28) rfl rfl Try.func54 (by kernel_rfl) rfl #[.slice Ao18 t193.length co18, .int .i64 12, .int .i64 a0_2, .int .i64 4] rfl (by (try simp only [List.map_toArray, List.map_cons, List.map_nil]); first | done | rfl | (simp only [List.length_drop, List.length_take]; rfl)) ?_; (with_reducible refine (impl_put.calls kj1 (fun k_ => some k_ = (.slice Ao18 t193.length co18 : Value).ownBlock) (.slice Ao18 t193.length co18) t193 12 a0_2 4 t196 w _ ?side1 ?side2 A14.out).mono ?_); (case side1 => repeat (first | (with_reducible first | exact HB.out | apply below_alloc | apply pw_below_drewN | apply below_drew1 | refine below_set ?_ GE189.out) | exact HB.out)); (case side2 => exact Kd.R_tight rfl HO195.out); rintro e w19 ⟨rfl, hy0, hb, hkp⟩; refine ⟨_, rfl, ?_⟩; have n0_ := Aside0.mk (blk_kept (by (with_reducible repeat (first | refine blk_drewN ?_ _ | refine blk_drew ?_ | refine blk_alloc ?_ _)); exact BK189.out) hkp (fun hs_ => (fun e_ => (Kd.R_ne HO195.out BK189.out (by decide)) e_) hs_)); have n1_ := Aside0.mk (Kd.R_reok rfl hy0 (fun k_ e_ => HO195.out.1 k_ e_)); have n2_ := Aside0.mk (hb); clear BK189; clear HO195; clear HB; have BK189 := n0_; have HO195 := n1_; have HB := n2_; clear n0_ n1_ n2_; (try clear hb); (try clear hkp); (try clear hy0)))
        go_ret
        exact ⟨_, by first | rfl | (simp [errW_none, errW_some] <;> rfl) | (simp [*, errW_none, errW_some] <;> rfl), by (with_reducible repeat (first | apply Kd.R_alloc | apply Kd.R_drewN | apply Kd.R_drew)); exact HO195.out, by repeat (first | (with_reducible first | exact HB.out | apply below_alloc | apply pw_below_drewN | apply below_drew1 | refine below_set ?_ GE189.out) | exact HB.out)⟩

/-! ### laws_FnExactEncodeCommit: function 5 -/
def laws_FnExactEncodeCommit.f (k : Nat) (a0_0 : Int) (a0_1 : Int) (a0_2 : Int) : Option (Bool) := (laws_toCommit.f a0_0 a0_1 a0_2).bind fun bt198 => ((spec_EncodeCommit.f k bt198.1 bt198.2.1 bt198.2.2).bind fun t201 => ((laws_toCommit.f a0_0 a0_1 a0_2).bind fun bt204 => ((impl_EncodeCommit.f k bt204.1 bt204.2.1 bt204.2.2).bind fun t207 => ((laws_eqByteS.f k t207 t201).bind fun t210 => (if t210 = true then ((laws_markByteS.f k t207 1).bind fun bt211 => ((laws_heldByteS.f k bt211.2 1).bind fun t213 => (if t213 < 0 then (some false) else (if t213 = bt211.1 then ((laws_toCommit.f a0_0 a0_1 a0_2).bind fun bt214 => ((impl_EncodeCommit.f k bt214.1 bt214.2.1 bt214.2.2).bind fun t217 => ((laws_eqByteS.f k t217 t201).bind fun t220 => (if t220 = true then ((laws_heldByteS.f k bt211.2 1).bind fun t221 => (if t221 < 0 then (some false) else (if t221 = bt211.1 then (some true) else (some false)))) else (some false))))) else (some false))))) else (some false))))))
theorem laws_FnExactEncodeCommit.mono : ∀ a0 a1 a2 k, LeO (laws_FnExactEncodeCommit.f k a0 a1 a2) (laws_FnExactEncodeCommit.f (k + 1) a0 a1 a2) := by
  intro a0 a1 a2 k
  unfold laws_FnExactEncodeCommit.f
  repeat' first
      | (with_reducible exact impl_EncodeCommit.mono _ _ _ _)
      | (with_reducible exact laws_eqByteS.mono _ _ _)
      | (with_reducible exact laws_heldByteS.mono _ _ _)
      | (with_reducible exact laws_markByteS.mono _ _ _)
      | (with_reducible exact spec_EncodeCommit.mono _ _ _ _)
      | (with_reducible exact LeO.refl _)
      | (with_reducible exact LeO.none _)
      | (with_reducible refine LeO.ite ?_ ?_)
      | (with_reducible refine LeO.bind ?_ (fun _ => ?_))
      | exact impl_EncodeCommit.mono _ _ _ _
      | exact laws_eqByteS.mono _ _ _
      | exact laws_heldByteS.mono _ _ _
      | exact laws_markByteS.mono _ _ _
      | exact spec_EncodeCommit.mono _ _ _ _
      | exact LeO.none _
      | refine LeO.ite ?_ ?_
      | refine LeO.bind ?_ (fun _ => ?_)
set_option maxHeartbeats 8000000 in
set_option maxRecDepth 100000 in
theorem laws_FnExactEncodeCommit.calls (k : Nat) (a0_0 : Int) (a0_1 : Int) (a0_2 : Int) (r : Bool) (w : World) (h : laws_FnExactEncodeCommit.f k a0_0 a0_1 a0_2 = some r) (hrt : Aside0 (r = true)) :
    Calls Try.prog 5 #[.agg #[.int .i64 a0_0, .int .i64 a0_1, .int .i64 a0_2]] w fun e w' => e = .returned (.bool r) ∧ Below w.heap.size w w' := by
  have hu35 := Try.underlying35
  have HB := Aside0.mk (Below.refl w.heap.size w)
  have H : ((laws_toCommit.f a0_0 a0_1 a0_2).bind fun bt198 => ((spec_EncodeCommit.f k bt198.1 bt198.2.1 bt198.2.2).bind fun t201 => ((laws_toCommit.f a0_0 a0_1 a0_2).bind fun bt204 => ((impl_EncodeCommit.f k bt204.1 bt204.2.1 bt204.2.2).bind fun t207 => ((laws_eqByteS.f k t207 t201).bind fun t210 => (if t210 = true then ((laws_markByteS.f k t207 1).bind fun bt211 => ((laws_heldByteS.f k bt211.2 1).bind fun t213 => (if t213 < 0 then (some false) else (if t213 = bt211.1 then ((laws_toCommit.f a0_0 a0_1 a0_2).bind fun bt214 => ((impl_EncodeCommit.f k bt214.1 bt214.2.1 bt214.2.2).bind fun t217 => ((laws_eqByteS.f k t217 t201).bind fun t220 => (if t220 = true then ((laws_heldByteS.f k bt211.2 1).bind fun t221 => (if t221 < 0 then (some false) else (if t221 = bt211.1 then (some true) else (some false)))) else (some false))))) else (some false))))) else (some false))))))) = some r := h
  clear h
  replace H := Option.bind_eq_some_iff.mp H
  obtain ⟨⟨t198, t199, t200⟩, A20, H⟩ := H
  replace H : ((spec_EncodeCommit.f k t198 t199 t200).bind fun t201 => ((laws_toCommit.f a0_0 a0_1 a0_2).bind fun bt204 => ((impl_EncodeCommit.f k bt204.1 bt204.2.1 bt204.2.2).bind fun t207 => ((laws_eqByteS.f k t207 t201).bind fun t210 => (if t210 = true then ((laws_markByteS.f k t207 1).bind fun bt211 => ((laws_heldByteS.f k bt211.2 1).bind fun t213 => (if t213 < 0 then (some false) else (if t213 = bt211.1 then ((laws_toCommit.f a0_0 a0_1 a0_2).bind fun bt214 => ((impl_EncodeCommit.f k bt214.1 bt214.2.1 bt214.2.2).bind fun t217 => ((laws_eqByteS.f k t217 t201).bind fun t220 => (if t220 = true then ((laws_heldByteS.f k bt211.2 1).bind fun t221 => (if t221 < 0 then (some false) else (if t221 = bt211.1 then (some true) else (some false)))) else (some false))))) else (some false))))) else (some false)))))) = some r := H
  have A2 := Aside0.mk A20
  clear A20
  replace H := Option.bind_eq_some_iff.mp H
  obtain ⟨t201, A30, H⟩ := H
  replace H : ((laws_toCommit.f a0_0 a0_1 a0_2).bind fun bt204 => ((impl_EncodeCommit.f k bt204.1 bt204.2.1 bt204.2.2).bind fun t207 => ((laws_eqByteS.f k t207 t201).bind fun t210 => (if t210 = true then ((laws_markByteS.f k t207 1).bind fun bt211 => ((laws_heldByteS.f k bt211.2 1).bind fun t213 => (if t213 < 0 then (some false) else (if t213 = bt211.1 then ((laws_toCommit.f a0_0 a0_1 a0_2).bind fun bt214 => ((impl_EncodeCommit.f k bt214.1 bt214.2.1 bt214.2.2).bind fun t217 => ((laws_eqByteS.f k t217 t201).bind fun t220 => (if t220 = true then ((laws_heldByteS.f k bt211.2 1).bind fun t221 => (if t221 < 0 then (some false) else (if t221 = bt211.1 then (some true) else (some false)))) else (some false))))) else (some false))))) else (some false))))) = some r := H
  have A3 := Aside0.mk A30
  clear A30
  replace H := Option.bind_eq_some_iff.mp H
  obtain ⟨⟨t204, t205, t206⟩, A40, H⟩ := H
  replace H : ((impl_EncodeCommit.f k t204 t205 t206).bind fun t207 => ((laws_eqByteS.f k t207 t201).bind fun t210 => (if t210 = true then ((laws_markByteS.f k t207 1).bind fun bt211 => ((laws_heldByteS.f k bt211.2 1).bind fun t213 => (if t213 < 0 then (some false) else (if t213 = bt211.1 then ((laws_toCommit.f a0_0 a0_1 a0_2).bind fun bt214 => ((impl_EncodeCommit.f k bt214.1 bt214.2.1 bt214.2.2).bind fun t217 => ((laws_eqByteS.f k t217 t201).bind fun t220 => (if t220 = true then ((laws_heldByteS.f k bt211.2 1).bind fun t221 => (if t221 < 0 then (some false) else (if t221 = bt211.1 then (some true) else (some false)))) else (some false))))) else (some false))))) else (some false)))) = some r := H
  have A4 := Aside0.mk A40
  clear A40
  replace H := Option.bind_eq_some_iff.mp H
  obtain ⟨t207, A50, H⟩ := H
  replace H : ((laws_eqByteS.f k t207 t201).bind fun t210 => (if t210 = true then ((laws_markByteS.f k t207 1).bind fun bt211 => ((laws_heldByteS.f k bt211.2 1).bind fun t213 => (if t213 < 0 then (some false) else (if t213 = bt211.1 then ((laws_toCommit.f a0_0 a0_1 a0_2).bind fun bt214 => ((impl_EncodeCommit.f k bt214.1 bt214.2.1 bt214.2.2).bind fun t217 => ((laws_eqByteS.f k t217 t201).bind fun t220 => (if t220 = true then ((laws_heldByteS.f k bt211.2 1).bind fun t221 => (if t221 < 0 then (some false) else (if t221 = bt211.1 then (some true) else (some false)))) else (some false))))) else (some false))))) else (some false))) = some r := H
  have A5 := Aside0.mk A50
  clear A50
  replace H := Option.bind_eq_some_iff.mp H
  obtain ⟨t210, A60, H⟩ := H
  replace H : (if t210 = true then ((laws_markByteS.f k t207 1).bind fun bt211 => ((laws_heldByteS.f k bt211.2 1).bind fun t213 => (if t213 < 0 then (some false) else (if t213 = bt211.1 then ((laws_toCommit.f a0_0 a0_1 a0_2).bind fun bt214 => ((impl_EncodeCommit.f k bt214.1 bt214.2.1 bt214.2.2).bind fun t217 => ((laws_eqByteS.f k t217 t201).bind fun t220 => (if t220 = true then ((laws_heldByteS.f k bt211.2 1).bind fun t221 => (if t221 < 0 then (some false) else (if t221 = bt211.1 then (some true) else (some false)))) else (some false))))) else (some false))))) else (some false)) = some r := H
  have A6 := Aside0.mk A60
  clear A60
  by_cases c7 : t210 = true
  · subst c7
    have H1 : ((laws_markByteS.f k t207 1).bind fun bt211 => ((laws_heldByteS.f k bt211.2 1).bind fun t213 => (if t213 < 0 then (some false) else (if t213 = bt211.1 then ((laws_toCommit.f a0_0 a0_1 a0_2).bind fun bt214 => ((impl_EncodeCommit.f k bt214.1 bt214.2.1 bt214.2.2).bind fun t217 => ((laws_eqByteS.f k t217 t201).bind fun t220 => (if t220 = true then ((laws_heldByteS.f k bt211.2 1).bind fun t221 => (if t221 < 0 then (some false) else (if t221 = bt211.1 then (some true) else (some false)))) else (some false))))) else (some false))))) = some r := by rw [if_pos rfl] at H; exact H
    clear H
    have H := H1
    clear H1
    replace H := Option.bind_eq_some_iff.mp H
    obtain ⟨⟨t211, t212⟩, A80, H⟩ := H
    replace H : ((laws_heldByteS.f k t212 1).bind fun t213 => (if t213 < 0 then (some false) else (if t213 = t211 then ((laws_toCommit.f a0_0 a0_1 a0_2).bind fun bt214 => ((impl_EncodeCommit.f k bt214.1 bt214.2.1 bt214.2.2).bind fun t217 => ((laws_eqByteS.f k t217 t201).bind fun t220 => (if t220 = true then ((laws_heldByteS.f k t212 1).bind fun t221 => (if t221 < 0 then (some false) else (if t221 = t211 then (some true) else (some false)))) else (some false))))) else (some false)))) = some r := H
    have A8 := Aside0.mk A80
    clear A80
    replace H := Option.bind_eq_some_iff.mp H
    obtain ⟨t213, A90, H⟩ := H
    replace H : (if t213 < 0 then (some false) else (if t213 = t211 then ((laws_toCommit.f a0_0 a0_1 a0_2).bind fun bt214 => ((impl_EncodeCommit.f k bt214.1 bt214.2.1 bt214.2.2).bind fun t217 => ((laws_eqByteS.f k t217 t201).bind fun t220 => (if t220 = true then ((laws_heldByteS.f k t212 1).bind fun t221 => (if t221 < 0 then (some false) else (if t221 = t211 then (some true) else (some false)))) else (some false))))) else (some false))) = some r := H
    have A9 := Aside0.mk A90
    clear A90
    by_cases c10 : t213 < 0
    · rw [if_pos c10] at H
      have c10b0 : decide (t213 < 0) = true := decide_eq_true c10
      clear c10
      exact absurd ((Option.some.inj H).trans hrt.out) (by simp)
    · rw [if_neg c10] at H
      have c10b0 : decide (t213 < 0) = false := decide_eq_false c10
      clear c10
      by_cases c11 : t213 = t211
      · rw [if_pos c11] at H
        have c11b0 : (t213 == t211) = true := beq_iff_eq.mpr c11
        have c11b1 : (t213 != t211) = false := bne_eq_false_iff_eq.mpr c11
        clear c11
        replace H := Option.bind_eq_some_iff.mp H
        obtain ⟨⟨t214, t215, t216⟩, A120, H⟩ := H
        replace H : ((impl_EncodeCommit.f k t214 t215 t216).bind fun t217 => ((laws_eqByteS.f k t217 t201).bind fun t220 => (if t220 = true then ((laws_heldByteS.f k t212 1).bind fun t221 => (if t221 < 0 then (some false) else (if t221 = t211 then (some true) else (some false)))) else (some false)))) = some r := H
        have A12 := Aside0.mk A120
        clear A120
        replace H := Option.bind_eq_some_iff.mp H
        obtain ⟨t217, A130, H⟩ := H
        replace H : ((laws_eqByteS.f k t217 t201).bind fun t220 => (if t220 = true then ((laws_heldByteS.f k t212 1).bind fun t221 => (if t221 < 0 then (some false) else (if t221 = t211 then (some true) else (some false)))) else (some false))) = some r := H
        have A13 := Aside0.mk A130
        clear A130
        replace H := Option.bind_eq_some_iff.mp H
        obtain ⟨t220, A140, H⟩ := H
        replace H : (if t220 = true then ((laws_heldByteS.f k t212 1).bind fun t221 => (if t221 < 0 then (some false) else (if t221 = t211 then (some true) else (some false)))) else (some false)) = some r := H
        have A14 := Aside0.mk A140
        clear A140
        by_cases c15 : t220 = true
        · subst c15
          have H1 : ((laws_heldByteS.f k t212 1).bind fun t221 => (if t221 < 0 then (some false) else (if t221 = t211 then (some true) else (some false)))) = some r := by rw [if_pos rfl] at H; exact H
          clear H
          have H := H1
          clear H1
          replace H := Option.bind_eq_some_iff.mp H
          obtain ⟨t221, A160, H⟩ := H
          replace H : (if t221 < 0 then (some false) else (if t221 = t211 then (some true) else (some false))) = some r := H
          have A16 := Aside0.mk A160
          clear A160
          by_cases c17 : t221 < 0
          · rw [if_pos c17] at H
            have c17b0 : decide (t221 < 0) = true := decide_eq_true c17
            clear c17
            exact absurd ((Option.some.inj H).trans hrt.out) (by simp)
          · rw [if_neg c17] at H
            have c17b0 : decide (t221 < 0) = false := decide_eq_false c17
            clear c17
            by_cases c18 : t221 = t211
            · rw [if_pos c18] at H
              have c18b0 : (t221 == t211) = true := beq_iff_eq.mpr c18
              have c18b1 : (t221 != t211) = false := bne_eq_false_iff_eq.mpr c18
              clear c18
              obtain rfl := Option.some.inj H
              go_enter Try.func5, Try.ntmps5
              go_wp2_with (first | ((with_reducible refine gate_dst (N := 1) rfl ?_); refine box_event ?hg (N := 1) ?hd (cs := #[.int .i64 a0_0, .int .i64 a0_1, .int .i64 a0_2]) (t := 35) ?hr ?_; (case hd => rfl); (case hg => rfl); (case hr => first | (go_simp; done) | (go_simp; rfl)); intro gb197 hg w19 hbox hb; have n0_ := Aside0.mk (below_step (by repeat (first | (with_reducible first | exact HB.out | apply below_alloc | apply pw_below_drewN | apply below_drew1) | exact HB.out)) hb); have n1_ := Aside0.mk (hbox); have n2_ := Aside0.mk ((by rw [hg]; exact (below_size (by repeat (first | (with_reducible first | exact HB.out | apply below_alloc | apply pw_below_drewN | apply below_drew1) | exact HB.out))) : w.heap.size ≤ gb197)); have n3_ := Aside0.mk ((by rw [hg]; exact (below_size (by repeat (first | (with_reducible first | exact HB.out | apply below_alloc | apply pw_below_drewN | apply below_drew1) | exact HB.out))) : w.heap.size ≤ gb197)); clear HB; have HB := n0_; have BK197 := n1_; have GW197 := n2_; have GE197 := n3_; clear n0_ n1_ n2_ n3_; clear hb hbox hg; have hcz20_0 : w19.cell? ⟨gb197, 0, none⟩ = some (.int .i64 a0_0) := (blk_cell BK197.out 0).trans rfl; have hcz20_1 : w19.cell? ⟨gb197, 1, none⟩ = some (.int .i64 a0_1) := (blk_cell BK197.out 1).trans rfl; have hcz20_2 : w19.cell? ⟨gb197, 2, none⟩ = some (.int .i64 a0_2) := (blk_cell BK197.out 2).trans rfl; have hfz20_0 := blk_frozen BK197.out 0; have hfz20_1 := blk_frozen BK197.out 1; have hfz20_2 := blk_frozen BK197.out 2) | ((with_reducible refine gate_callee (f := 24) rfl ?_); refine goesL_ (some 9) rfl rfl Try.func24 (by kernel_rfl) rfl #[.agg #[.int .i64 a0_0, .int .i64 a0_1, .int .i64 a0_2]] rfl (by (try simp only [List.map_toArray, List.map_cons, List.map_nil]); first | done | rfl | (simp only [List.length_drop, List.length_take]; rfl)) ?_; (with_reducible refine (laws_toCommit.calls a0_0 a0_1 a0_2 t198 t199 t200 _ A2.out).mono ?_); rintro e w21 ⟨rfl, hb⟩; refine ⟨_, rfl, ?_⟩; have n0_ := Aside0.mk (blk_below (g := gb197) (o := .cells #[.int .i64 a0_0, .int .i64 a0_1, .int .i64 a0_2] 35 (0, 0)) (by (with_reducible repeat (first | refine blk_drewN ?_ _ | refine blk_drew ?_ | refine blk_alloc ?_ _)); exact BK197.out) hb); have n1_ := Aside0.mk (below_step (by repeat (first | (with_reducible first | exact HB.out | apply below_alloc | apply pw_below_drewN | apply below_drew1 | refine below_set ?_ GE197.out) | exact HB.out)) hb); clear BK197; clear HB; have BK197 := n0_; have HB := n1_; clear n0_ n1_; (try clear hb); (try clear hb2); (try clear hk); (try clear hi)) | ((with_reducible refine gate_callee (f := 23) rfl ?_); refine goesL_ (some 10) rfl rfl Try.func23 (by kernel_rfl) rfl #[.agg #[.int .i64 t198, .int .i64 t199, .int .i64 t200]] rfl (by (try simp only [List.map_toArray, List.map_cons, List.map_nil]); first | done | rfl | (simp only [List.length_drop, List.length_take]; rfl)) ?_; (with_reducible refine (spec_EncodeCommit.calls k t198 t199 t200 t201 _ A3.out).mono ?_); rintro e w22 ⟨v202, rfl, ho0, hb⟩; refine ⟨_, rfl, ?_⟩; have n0_ := Aside0.mk (Kd.R_lower ho0 (below_size (by repeat (first | (with_reducible first | exact HB.out | apply below_alloc | apply pw_below_drewN | apply below_drew1 | refine below_set ?_ GE197.out) | exact HB.out)))); have n1_ := Aside0.mk (blk_below (g := gb197) (o := .cells #[.int .i64 a0_0, .int .i64 a0_1, .int .i64 a0_2] 35 (0, 0)) (by (with_reducible repeat (first | refine blk_drewN ?_ _ | refine blk_drew ?_ | refine blk_alloc ?_ _)); exact BK197.out) hb); have n2_ := Aside0.mk (below_step (by repeat (first | (with_reducible first | exact HB.out | apply below_alloc | apply pw_below_drewN | apply below_drew1 | refine below_set ?_ GE197.out) | exact HB.out)) hb); clear BK197; clear HB; have HO203 := n0_; have BK197 := n1_; have HB := n2_; clear n0_ n1_ n2_; (try clear hb); (try clear hb2); (try clear hk); (try clear hi); (try clear ho0); have hcz23_0 : w22.cell? ⟨gb197, 0, none⟩ = some (.int .i64 a0_0) := (blk_cell BK197.out 0).trans rfl; have hcz23_1 : w22.cell? ⟨gb197, 1, none⟩ = some (.int .i64 a0_1) := (blk_cell BK197.out 1).trans rfl; have hcz23_2 : w22.cell? ⟨gb197, 2, none⟩ = some (.int .i64 a0_2) := (blk_cell BK197.out 2).trans rfl; have hfz23_0 := blk_frozen BK197.out 0; have hfz23_1 := blk_frozen BK197.out 1; have hfz23_2 := blk_frozen BK197.out 2) | ((with_reducible refine gate_callee (f := 24) rfl ?_); refine goesL_ (some 12) rfl rfl Try.func24 (by kernel_rfl) rfl #[.agg #[.int .i64 a0_0, .int .i64 a0_1, .int .i64 a0_2]] rfl (by (try simp only [List.map_toArray, List.map_cons, List.map_nil]); first | done | rfl | (simp only [List.length_drop, List.length_take]; rfl)) ?_; (with_reducible refine (laws_toCommit.calls a0_0 a0_1 a0_2 t204 t205 t206 _ A4.out).mono ?_); rintro e w24 ⟨rfl, hb⟩; refine ⟨_, rfl, ?_⟩; have n0_ := Aside0.mk (Kd.R_below (by (with_reducible repeat (first | apply Kd.R_alloc | apply Kd.R_drewN | apply Kd.R_drew)); exact HO203.out) hb); have n1_ := Aside0.mk (blk_below (g := gb197) (o := .cells #[.int .i64 a0_0, .int .i64 a0_1, .int .i64 a0_2] 35 (0, 0)) (by (with_reducible repeat (first | refine blk_drewN ?_ _ | refine blk_drew ?_ | refine blk_alloc ?_ _)); exact BK197.out) hb); have n2_ := Aside0.mk (below_step (by repeat (first | (with_reducible first | exact HB.out | apply below_alloc | apply pw_below_drewN | apply below_drew1 | refine below_set ?_ GE197.out) | exact HB.out)) hb); clear HO203; clear BK197; clear HB; have HO203 := n0_; have BK197 := n1_; have HB := n2_; clear n0_ n1_ n2_; (try clear hb); (try clear hb2); (try clear hk); (try clear hi)) | ((with_reducible refine gate_callee (f := 25) rfl ?_); refine goesL_ (some 13) rfl rfl Try.func25 (by kernel_rfl) rfl #[.agg #[.int .i64 t204, .int .i64 t205, .int .i64 t206]] rfl (by (try simp only [List.map_toArray, List.map_cons, List.map_nil]); first | done | rfl | (simp only [List.length_drop, List.length_take]; rfl)) ?_; (with_reducible refine (impl_EncodeCommit.calls k t204 t205 t206 t207 _ A5.out).mono ?_); rintro e w25 ⟨v208, rfl, ho0, hb⟩; refine ⟨_, rfl, ?_⟩; have n0_ := Aside0.mk (Kd.R_elder' (by (with_reducible repeat (first | apply Kd.R_alloc | apply Kd.R_drewN | apply Kd.R_drew)); exact HO203.out) (Kd.R_base ho0) hb); have n1_ := Aside0.mk (Kd.R_lower (Kd.R_new' ho0 (Kd.R_lt (by (with_reducible repeat (first | apply Kd.R_alloc | apply Kd.R_drewN | apply Kd.R_drew)); exact HO203.out))) (below_size (by repeat (first | (with_reducible first | exact HB.out | apply below_alloc | apply pw_below_drewN | apply below_drew1 | refine below_set ?_ GE197.out) | exact HB.out)))); have n2_ := Aside0.mk (blk_below (g := gb197) (o := .cells #[.int .i64 a0_0, .int .i64 a0_1, .int .i64 a0_2] 35 (0, 0)) (by (with_reducible repeat (first | refine blk_drewN ?_ _ | refine blk_drew ?_ | refine blk_alloc ?_ _)); exact BK197.out) hb); have n3_ := Aside0.mk (below_step (by repeat (first | (with_reducible first | exact HB.out | apply below_alloc | apply pw_below_drewN | apply below_drew1 | refine below_set ?_ GE197.out) | exact HB.out)) hb); clear HO203; clear BK197; clear HB; have HO203 := n0_; have HO209 := n1_; have BK197 := n2_; have HB := n3_; clear n0_ n1_ n2_ n3_; (try clear hb); (try clear hb2); (try clear hk); (try clear hi); (try clear ho0); obtain ⟨Ao26, co26, eo26⟩ := Kd.R_slice HO209.out; subst eo26; obtain ⟨Ao27, co27, eo27⟩ := Kd.R_slice HO203.out; subst eo27) | ((with_reducible refine gate_callee (f := 14) rfl ?_); refine goesL_ (some 16) rfl rfl Try.func14 (by kernel_rfl) rfl #[.slice Ao26 t207.length co26, .slice Ao27 t201.length co27] rfl (by (try simp only [List.map_toArray, List.map_cons, List.map_nil]); first | done | rfl | (simp only [List.length_drop, List.length_take]; rfl)) ?_; (with_reducible refine (laws_eqByteS.calls k _ _ t207 _ _ t201 true _ ?side1 ?side2 ?side3 ?side4 A6.out).mono ?_); (case side1 => repeat (first | exact (Kd.R_reads' HO209.out).2.2 | (with_reducible refine Kd.C_alloc ?_ _) | (with_reducible refine Kd.C_drewN ?_ _) | (with_reducible refine Kd.C_drew ?_))); (case side2 => exact (Kd.R_reads' HO209.out).2.1); (case side3 => repeat (first | exact (Kd.R_reads' HO203.out).2.2 | (with_reducible refine Kd.C_alloc ?_ _) | (with_reducible refine Kd.C_drewN ?_ _) | (with_reducible refine Kd.C_drew ?_))); (case side4 => exact (Kd.R_reads' HO203.out).2.1); rintro e w' ⟨rfl, ⟨nd, rfl⟩⟩; refine ⟨_, rfl, ?_⟩) | ((with_reducible refine gate_callee (f := 17) rfl ?_); refine goesL_ (some 20) rfl rfl Try.func17 (by kernel_rfl) rfl #[.slice Ao26 t207.length co26, .int .i64 1] rfl (by (try simp only [List.map_toArray, List.map_cons, List.map_nil]); first | done | rfl | (simp only [List.length_drop, List.length_take]; rfl)) ?_; (with_reducible refine (laws_markByteS.calls k (fun k_ => some k_ = (.slice Ao26 t207.length co26 : Value).ownBlock) (.slice Ao26 t207.length co26) t207 1 t211 t212 w _ ?side1 ?side2 A8.out).mono ?_); (case side1 => repeat (first | (with_reducible first | exact HB.out | apply below_alloc | apply pw_below_drewN | apply below_drew1 | refine below_set ?_ GE197.out) | exact HB.out)); (case side2 => exact Kd.R_tight rfl HO209.out); rintro e w28 ⟨rfl, hy0, hb, hkp⟩; refine ⟨_, rfl, ?_⟩; have n0_ := Aside0.mk (blk_kept (by (with_reducible repeat (first | refine blk_drewN ?_ _ | refine blk_drew ?_ | refine blk_alloc ?_ _)); exact BK197.out) hkp (fun hs_ => (fun e_ => (Kd.R_ne HO209.out BK197.out (by decide)) e_) hs_)); have n1_ := Aside0.mk (Kd.R_mono (ok' := fun k_ => some k_ ≠ (.slice Ao26 t207.length co26 : Value).ownBlock) (Kd.R_keptB (HO203.out) hkp (fun k_ hk_ hs_ => (hk_.2) hs_)) (fun k_ hk_ => hk_.1.2)); have n2_ := Aside0.mk (Kd.R_reok rfl hy0 (fun k_ e_ => HO209.out.1 k_ e_)); have n3_ := Aside0.mk (hb); clear BK197; clear HO203; clear HO209; clear HB; have BK197 := n0_; have HO203 := n1_; have HO209 := n2_; have HB := n3_; clear n0_ n1_ n2_ n3_; (try clear hb); (try clear hkp); (try clear hy0)) | ((with_reducible refine gate_callee (f := 18) rfl ?_); refine goesL_ (some 23) rfl rfl Try.func18 (by kernel_rfl) rfl #[.slice Ao26 t212.length co26, .int .i64 1] rfl (by (try simp only [List.map_toArray, List.map_cons, List.map_nil]); first | done | (rw [show t212.length = t207.length from (Kd.R_reads' HO209.out).1.symm] <;> rfl) | rfl | (simp only [List.length_drop, List.length_take]; rfl)) ?_; (with_reducible refine (laws_heldByteS.calls k _ _ t212 1 t213 _ ?side1 ?side2 A9.out).mono ?_); (case side1 => repeat (first | exact (Kd.R_reads' HO209.out).2.2 | (with_reducible refine Kd.C_alloc ?_ _) | (with_reducible refine Kd.C_drewN ?_ _) | (with_reducible refine Kd.C_drew ?_))); (case side2 => rw [show t212.length = t207.length from (Kd.R_reads' HO209.out).1.symm]; exact (Kd.R_reads' HO209.out).2.1); rintro e w' ⟨rfl, ⟨nd, rfl⟩⟩; refine ⟨_, rfl, ?_⟩; have hcz29_0 : w28.cell? ⟨gb197, 0, none⟩ = some (.int .i64 a0_0) := (blk_cell BK197.out 0).trans rfl; have hcz29_1 : w28.cell? ⟨gb197, 1, none⟩ = some (.int .i64 a0_1) := (blk_cell BK197.out 1).trans rfl; have hcz29_2 : w28.cell? ⟨gb197, 2, none⟩ = some (.int .i64 a0_2) := (blk_cell BK197.out 2).trans rfl; have hfz29_0 := blk_frozen BK197.out 0; have hfz29_1 := blk_frozen BK197.out 1; have hfz29_2 := blk_frozen BK197.out 2) | ((with_reducible refine gate_callee (f := 24) rfl ?_); refine goesL_ (some 30) rfl rfl Try.func24 (by kernel_rfl) rfl #[.agg #[.int .i64 a0_0, .int .i64 a0_1, .int .i64 a0_2]] rfl (by (try simp only [List.map_toArray, List.map_cons, List.map_nil]); first | done | rfl | (simp only [List.length_drop, List.length_take]; rfl)) ?_; (with_reducible refine (laws_toCommit.calls a0_0 a0_1 a0_2 t214 t215 t216 _ A12.out).mono ?_); rintro e w30 ⟨rfl, hb⟩; refine ⟨_, rfl, ?_⟩; have n0_ := Aside0.mk (Kd.R_below (by (with_reducible repeat (first | apply Kd.R_alloc | apply Kd.R_drewN | apply Kd.R_drew)); exact HO203.out) hb); have n1_ := Aside0.mk (Kd.R_below (by (with_reducible repeat (first | apply Kd.R_alloc | apply Kd.R_drewN | apply Kd.R_drew)); exact HO209.out) hb); have n2_ := Aside0.mk (blk_below (g := gb197) (o := .cells #[.int .i64 a0_0, .int .i64 a0_1, .int .i64 a0_2] 35 (0, 0)) (by (with_reducible repeat (first | refine blk_drewN ?_ _ | refine blk_drew ?_ | refine blk_alloc ?_ _)); exact BK197.out) hb); have n3_ := Aside0.mk (below_step (by repeat (first | (with_reducible first | exact HB.out | apply below_alloc | apply pw_below_drewN | apply below_drew1 | refine below_set ?_ GE197.out) | exact HB.out)) hb); clear HO203; clear HO209; clear BK197; clear HB; have HO203 := n0_; have HO209 := n1_; have BK197 := n2_; have HB := n3_; clear n0_ n1_ n2_ n3_; (try clear hb); (try clear hb2); (try clear hk); (try clear hi)) | ((with_reducible refine gate_callee (f := 25) rfl ?_); refine goesL_ (some 31) rfl rfl Try.func25 (by kernel_rfl) rfl #[.agg #[.int .i64 t214, .int .i64 t215, .int .i64 t216]] rfl (by (try simp only [List.map_toArray, List.map_cons, List.map_nil]); first | done | rfl | (simp only [List.length_drop, List.length_take]; rfl)) ?_; (with_reducible refine (impl_EncodeCommit.calls k t214 t215 t216 t217 _ A13.out).mono ?_); rintro e w31 ⟨v218, rfl, ho0, hb⟩; refine ⟨_, rfl, ?_⟩; have n0_ := Aside0.mk (Kd.R_elder' (by (with_reducible repeat (first | apply Kd.R_alloc | apply Kd.R_drewN | apply Kd.R_drew)); exact HO203.out) (Kd.R_base ho0) hb); have n1_ := Aside0.mk (Kd.R_elder' (by (with_reducible repeat (first | apply Kd.R_alloc | apply Kd.R_drewN | apply Kd.R_drew)); exact HO209.out) (Kd.R_base ho0) hb); have n2_ := Aside0.mk (Kd.R_lower (Kd.R_new' (Kd.R_new' ho0 (Kd.R_lt (by (with_reducible repeat (first | apply Kd.R_alloc | apply Kd.R_drewN | apply Kd.R_drew)); exact HO203.out))) (Kd.R_lt (by (with_reducible repeat (first | apply Kd.R_alloc | apply Kd.R_drewN | apply Kd.R_drew)); exact HO209.out))) (below_size (by repeat (first | (with_reducible first | exact HB.out | apply below_alloc | apply pw_below_drewN | apply below_drew1 | refine below_set ?_ GE197.out) | exact HB.out)))); have n3_ := Aside0.mk (blk_below (g := gb197) (o := .cells #[.int .i64 a0_0, .int .i64 a0_1, .int .i64 a0_2] 35 (0, 0)) (by (with_reducible repeat (first | refine blk_drewN ?_ _ | refine blk_drew ?_ | refine blk_alloc ?_ _)); exact BK197.out) hb); have n4_ := Aside0.mk (below_step (by repeat (first | (with_reducible first | exact HB.out | apply below_alloc | apply pw_below_drewN | apply below_drew1 | refine below_set ?_ GE197.out) | exact HB.out)) hb); clear HO203; clear HO209; clear BK197; clear HB; have HO203 := n0_; have HO209 := n1_; have HO219 := n2_; have BK197 := n3_; have HB := n4_; clear n0_ n1_ n2_ n3_ n4_; (try clear hb); (try clear hb2); (try clear hk); (try clear hi); (try clear ho0); obtain ⟨Ao32, co32, eo32⟩ := Kd.R_slice HO219.out; subst eo32) | ((with_reducible refine gate_callee (f := 14) rfl ?_); refine goesL_ (some 34) rfl rfl Try.func14 (by kernel_rfl) rfl #[.slice Ao32 t217.length co32, .slice Ao27 t201.length co27] rfl (by (try simp only [List.map_toArray, List.map_cons, List.map_nil]); first | done | rfl | (simp only [List.length_drop, List.length_take]; rfl)) ?_; (with_reducible refine (laws_eqByteS.calls k _ _ t217 _ _ t201 true _ ?side1 ?side2 ?side3 ?side4 A14.out).mono ?_); (case side1 => repeat (first | exact (Kd.R_reads' HO219.out).2.2 | (with_reducible refine Kd.C_alloc ?_ _) | (with_reducible refine Kd.C_drewN ?_ _) | (with_reducible refine Kd.C_drew ?_))); (case side2 => exact (Kd.R_reads' HO219.out).2.1); (case side3 => repeat (first | exact (Kd.R_reads' HO203.out).2.2 | (with_reducible refine Kd.C_alloc ?_ _) | (with_reducible refine Kd.C_drewN ?_ _) | (with_reducible refine Kd.C_drew ?_))); (case side4 => exact (Kd.R_reads' HO203.out).2.1); rintro e w' ⟨rfl, ⟨nd, rfl⟩⟩; refine ⟨_, rfl, ?_⟩) | ((with_reducible refine gate_callee (f := 18) rfl ?_); refine goesL_ (some 38) rfl rfl Try.func18 (by kernel_rfl) rfl #[.slice Ao26 t212.length co26, .int .i64 1] rfl (by (try simp only [List.map_toArray, List.map_cons, List.map_nil]); first | done | (rw [show t212.length = t207.length from (Kd.R_reads' HO209.out).1.symm] <;> rfl) | rfl | (simp only [List.length_drop, List.length_take]; rfl)) ?_; (with_reducible refine (laws_heldByteS.calls k _ _ t212 1 t221 _ ?side1 ?side2 A16.out).mono ?_); (case side1 => repeat (first | exact (Kd.R_reads' HO209.out).2.2 | (with_reducible refine Kd.C_alloc ?_ _) | (with_reducible refine Kd.C_drewN ?_ _) | (with_reducible refine Kd.C_drew ?_))); (case side2 => rw [show t212.length = t207.length from (Kd.R_reads' HO209.out).1.symm]; exact (Kd.R_reads' HO209.out).2.1); rintro e w' ⟨rfl, ⟨nd, rfl⟩⟩; refine ⟨_, rfl, ?_⟩))
              go_ret
              exact ⟨by first | rfl | (simp [errW_none, errW_some] <;> rfl) | (simp [*, errW_none, errW_some] <;> rfl), by repeat (first | (with_reducible first | exact HB.out | apply below_alloc | apply pw_below_drewN | apply below_drew1 | refine below_set ?_ GE197.out) | exact HB.out)⟩
            · rw [if_neg c18] at H
              have c18b0 : (t221 == t211) = false := beq_eq_false_iff_ne.mpr c18
              have c18b1 : (t221 != t211) = true := bne_iff_ne.mpr c18
              exact absurd ((Option.some.inj H).trans hrt.out) (by simp)
        · replace c15 := Bool.eq_false_iff.mpr c15
          subst c15
          have H1 : (some false) = some r := by rw [if_neg (show ¬ (false = true) by decide)] at H; exact H
          clear H
          have H := H1
          clear H1
          exact absurd ((Option.some.inj H).trans hrt.out) (by simp)
      · rw [if_neg c11] at H
        have c11b0 : (t213 == t211) = false := beq_eq_false_iff_ne.mpr c11
        have c11b1 : (t213 != t211) = true := bne_iff_ne.mpr c11
        exact absurd ((Option.some.inj H).trans hrt.out) (by simp)
  · replace c7 := Bool.eq_false_iff.mpr c7
    subst c7
    have H1 : (some false) = some r := by rw [if_neg (show ¬ (false = true) by decide)] at H; exact H
    clear H
    have H := H1
    clear H1
    exact absurd ((Option.some.inj H).trans hrt.out) (by simp)

end Go.Proofs.Ytplefdkookhlhaa.PFnExactEncodeCommit
