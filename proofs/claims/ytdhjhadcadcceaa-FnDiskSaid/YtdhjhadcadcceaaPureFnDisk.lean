/- FnDisk: drawn operations done in two parts are as done at once; behind a crash each block is the durable one or the last of its writes that was kept; behind a flush the durable bytes are what readers saw. -/
import Derived.Test.YtdhjhadcadcceaaPFnDiskx
import Derived.Test.YtdhjhadcadcceaaVFDHlp2
import Derived.Test.YtdhjhadcadcceaaVFDHlp3
namespace Go.Proofs.Ytdhjhadcadcceaa.Pure
open Go.RowKit Go.Proofs.Ytdhjhadcadcceaa.PFnDisk Go.Proofs.YtdhjhadcadcceaaW.PrintWords Go.Proofs.YtdhjhadcadcceaaW.PrintLast Go.Proofs.YtdhjhadcadcceaaW.PrintMore Go.Proofs.Ytdhjhadcadcceaa.Hlp
set_option linter.unusedVariables false
namespace DK
theorem rd62 (l : List S62) (i : Nat) (h : i < l.length) : rd_T62 l (i : Int) = l[i] := by simp [rd_T62, h]
theorem rd93 (l : List S93) (i : Nat) (h : i < l.length) : rd_T93 l (i : Int) = l[i] := by simp [rd_T93, h]
def okW (b : Int) (w : S62) : Bool := decide (0 ≤ w.f0 ∧ w.f0 < b ∧ w.f1.length = 64)
def validD (l : List Int) (p : List S62) : Bool := decide (l.length % 64 = 0 ∧ 1 ≤ l.length ∧ l.length ≤ 131072 ∧ p.length ≤ 600) && p.all (okW ((l.length : Int) / 64))
theorem spec_loop (l : List Int) (p : List S62) (b : Int) (hp : p.length ≤ 1048576) : Ev (fun k => spec_ValidDisk.l0 k b 0 l p) (p.all (okW b)) := by
  have := down (P := fun i => Ev (fun k => spec_ValidDisk.l0 k b (i : Int) l p) ((p.drop i).all (okW b))) p.length ?_ ?_
  · simpa using this
  · rw [List.drop_length]
    exact Ev.step (f := fun _ => some true) (fun k => by simp only [spec_ValidDisk.l0]; rw [if_neg (by omega)]) (Ev.now _)
  · intro i hi h
    have hw : wrap64 ((i : Int) + 1) = ((i + 1 : Nat) : Int) := by rw [w64 (by omega) (by omega)]; rfl
    rw [List.drop_eq_getElem_cons hi, List.all_cons]
    by_cases c : 0 ≤ p[i].f0 ∧ p[i].f0 < b ∧ p[i].f1.length = 64
    · rw [show okW b p[i] = true by unfold okW; exact decide_eq_true c, Bool.true_and]
      exact Ev.step (fun k => by simp only [spec_ValidDisk.l0]; rw [if_pos (by omega), if_pos (by omega), rd62 p i hi, if_neg (by omega), if_neg (by omega), if_pos (by omega), hw]) h
    · rw [show okW b p[i] = false by unfold okW; exact decide_eq_false c, Bool.false_and]
      refine Ev.step (f := fun _ => some false) (fun k => ?_) (Ev.now _)
      simp only [spec_ValidDisk.l0]
      rw [if_pos (by omega), if_pos (by omega), rd62 p i hi]
      by_cases c1 : p[i].f0 < 0
      · rw [if_pos c1]
      · by_cases c2 : p[i].f0 ≥ b
        · rw [if_neg c1, if_pos c2]
        · rw [if_neg c1, if_neg c2, if_neg (by omega)]
theorem impl_loop (p : List S62) (n b : Int) (hb : wrap64 (Int.tdiv n 64) = b) (hp : p.length ≤ 1048576) : Ev (fun k => impl_ValidDisk.l0 k n p (p.length : Int) 0) (p.all (okW b)) := by
  have := down (P := fun i => Ev (fun k => impl_ValidDisk.l0 k n p (p.length : Int) (i : Int)) ((p.drop i).all (okW b))) p.length ?_ ?_
  · simpa using this
  · rw [List.drop_length]
    exact Ev.step (f := fun _ => some true) (fun k => by simp only [impl_ValidDisk.l0]; rw [if_neg (by omega)]) (Ev.now _)
  · intro i hi h
    have hw : wrap64 ((i : Int) + 1) = ((i + 1 : Nat) : Int) := by rw [w64 (by omega) (by omega)]; rfl
    rw [List.drop_eq_getElem_cons hi, List.all_cons]
    by_cases c : 0 ≤ p[i].f0 ∧ p[i].f0 < b ∧ p[i].f1.length = 64
    · rw [show okW b p[i] = true by unfold okW; exact decide_eq_true c, Bool.true_and]
      exact Ev.step (fun k => by simp only [impl_ValidDisk.l0]; rw [if_pos (by omega), if_pos (by omega), if_pos (by omega), rd62 p i hi, hb, if_neg (by omega), if_neg (by omega), if_pos (by omega), hw]) h
    · rw [show okW b p[i] = false by unfold okW; exact decide_eq_false c, Bool.false_and]
      refine Ev.step (f := fun _ => some false) (fun k => ?_) (Ev.now _)
      simp only [impl_ValidDisk.l0]
      rw [if_pos (by omega), if_pos (by omega), if_pos (by omega), rd62 p i hi, hb]
      by_cases c1 : p[i].f0 < 0
      · rw [if_pos c1]
      · by_cases c2 : p[i].f0 ≥ b
        · rw [if_neg c1, if_pos c2]
        · rw [if_neg c1, if_neg c2, if_neg (by omega)]
theorem spec_ev (l : List Int) (p : List S62) (hl : l.length ≤ 1048576) (hp : p.length ≤ 1048576) : Ev (fun k => spec_ValidDisk.f k l p) (validD l p) := by
  have hw : wrap64 ((l.length : Int) / 64) = (l.length : Int) / 64 := w64 (by omega) (by omega)
  have jt : Ev (fun k => spec_ValidDisk.j0 k ((l.length : Int) / 64) true l p) false := Ev.step (f := fun _ => some false) (fun k => by simp only [spec_ValidDisk.j0]; rw [if_pos trivial]) (Ev.now _)
  have no : ¬ (l.length % 64 = 0 ∧ 1 ≤ l.length ∧ l.length ≤ 131072 ∧ p.length ≤ 600) → validD l p = false := fun h => by unfold validD; rw [decide_eq_false h, Bool.false_and]
  by_cases c1 : ((l.length : Int) % 64) = 0
  rotate_left
  · rw [no (by omega)]
    exact Ev.congr (fun k => by unfold spec_ValidDisk.f spec_l1Blocks.f; rw [Option.bind_some, if_neg c1, hw]) jt
  by_cases c2 : (l.length : Int) / 64 < 1
  · rw [no (by omega)]
    exact Ev.congr (fun k => by unfold spec_ValidDisk.f spec_l1Blocks.f; rw [Option.bind_some, if_pos c1, hw, if_pos c2]) jt
  by_cases c3 : (l.length : Int) / 64 > 2048
  · rw [no (by omega)]
    exact Ev.congr (fun k => by unfold spec_ValidDisk.f spec_l1Blocks.f; rw [Option.bind_some, if_pos c1, hw, if_neg c2, if_pos c3]) jt
  by_cases c4 : (p.length : Int) > 600
  · rw [no (by omega)]
    exact Ev.congr (fun k => by unfold spec_ValidDisk.f spec_l1Blocks.f; rw [Option.bind_some, if_pos c1, hw, if_neg c2, if_neg c3, decide_eq_true c4]) jt
  rw [show validD l p = p.all (okW ((l.length : Int) / 64)) by unfold validD; rw [decide_eq_true (by omega), Bool.true_and]]
  refine Ev.congr (fun k => by unfold spec_ValidDisk.f spec_l1Blocks.f; rw [Option.bind_some, if_pos c1, hw, if_neg c2, if_neg c3, decide_eq_false c4]) ?_
  exact Ev.step (fun k => by simp only [spec_ValidDisk.j0]; rw [if_neg (by decide)]) (spec_loop l p _ hp)
theorem impl_ev (l : List Int) (p : List S62) (hl : l.length ≤ 1048576) (hp : p.length ≤ 1048576) : Ev (fun k => impl_ValidDisk.f k l p) (validD l p) := by
  have jt : Ev (fun k => impl_ValidDisk.j0 k (l.length : Int) true l p) false := Ev.step (f := fun _ => some false) (fun k => by simp only [impl_ValidDisk.j0]; rw [if_pos trivial]) (Ev.now _)
  have no : ¬ (l.length % 64 = 0 ∧ 1 ≤ l.length ∧ l.length ≤ 131072 ∧ p.length ≤ 600) → validD l p = false := fun h => by unfold validD; rw [decide_eq_false h, Bool.false_and]
  by_cases c1 : ((l.length : Int) % 64) = 0
  rotate_left
  · rw [no (by omega)]
    exact Ev.congr (fun k => by unfold impl_ValidDisk.f; rw [if_neg c1]) jt
  by_cases c2 : (l.length : Int) = 0
  · rw [no (by omega)]
    exact Ev.congr (fun k => by unfold impl_ValidDisk.f; rw [if_pos c1, if_pos c2]) jt
  by_cases c3 : (l.length : Int) > 131072
  · rw [no (by omega)]
    exact Ev.congr (fun k => by unfold impl_ValidDisk.f; rw [if_pos c1, if_neg c2, if_pos c3]) jt
  by_cases c4 : (p.length : Int) > 600
  · rw [no (by omega)]
    exact Ev.congr (fun k => by unfold impl_ValidDisk.f; rw [if_pos c1, if_neg c2, if_neg c3, decide_eq_true c4]) jt
  rw [show validD l p = p.all (okW ((l.length : Int) / 64)) by unfold validD; rw [decide_eq_true (by omega), Bool.true_and]]
  refine Ev.congr (fun k => by unfold impl_ValidDisk.f; rw [if_pos c1, if_neg c2, if_neg c3, decide_eq_false c4]) ?_
  exact Ev.step (fun k => by simp only [impl_ValidDisk.j0]; rw [if_neg (by decide)]) (impl_loop p _ _ (by rw [Int.tdiv_eq_ediv_of_nonneg (by omega), w64 (by omega) (by omega)]) hp)
theorem cp_is (l : List Int) (h : l.length ≤ 1048576) : spec_l1Copy.f l = some l ∧ impl_cp.f l = some l := by
  constructor
  · unfold spec_l1Copy.f; rw [Option.bind_some, if_pos (by simp only [List.length_nil]; omega), List.nil_append]
  · unfold impl_cp.f; rw [Option.bind_some, if_pos (by simp only [List.length_nil]; omega), List.nil_append]
theorem splice_set (x d : List Int) (o i : Nat) (hi : i < d.length) (ho : o + d.length ≤ x.length) : (splice x o (d.take i)).set (o + i) d[i] = splice x o (d.take (i + 1)) := by
  have h1 : (d.take i).length = i := by rw [List.length_take]; omega
  have h2 : (d.take (i + 1)).length = i + 1 := by rw [List.length_take]; omega
  have h3 : (x.take o).length = o := by rw [List.length_take]; omega
  unfold splice
  rw [h1, h2, List.set_append_right _ _ (by omega), h3, List.set_append_right _ _ (by omega), h1, show o + i - o - i = 0 by omega, List.drop_eq_getElem_cons (show o + i < x.length by omega), List.set_cons_zero, List.take_succ_eq_append_getElem hi, List.append_assoc]
  rfl
/-- The write of one block is laid over the bytes. -/
theorem put_ev (x d : List Int) (b : Nat) (hx : x.length ≤ 131072) (hd : d.length = 64) (hb : b * 64 + 64 ≤ x.length) : Ev (fun k => spec_l1Put.f k x (b : Int) d) (splice x (b * 64) d) := by
  have e1 : wrap64 ((b : Int) * 64) = ((b * 64 : Nat) : Int) := by rw [w64 (by omega) (by omega)]; omega
  have key : ∀ y : List Int, y = splice x (b * 64) (d.take 0) → Ev (fun k => spec_l1Put.l0 k y (b : Int) d ((0 : Nat) : Int)) (splice x (b * 64) d) := by
    refine down (P := fun i => ∀ y : List Int, y = splice x (b * 64) (d.take i) → Ev (fun k => spec_l1Put.l0 k y (b : Int) d (i : Int)) (splice x (b * 64) d)) 64 ?_ ?_
    · intro y hy
      rw [List.take_of_length_le (by omega)] at hy
      subst hy
      exact Ev.step (f := fun _ => some (splice x (b * 64) d)) (fun k => by simp only [spec_l1Put.l0]; rw [if_neg (by omega)]) (Ev.now _)
    · intro i hi ih y hy
      have hl : y.length = x.length := by rw [hy, length_splice _ _ _ (by rw [List.length_take]; omega)]
      have e2 : wrap64 (((b * 64 : Nat) : Int) + (i : Int)) = ((b * 64 + i : Nat) : Int) := by rw [w64 (by omega) (by omega)]; omega
      have e3 : wrap64 ((i : Int) + 1) = ((i + 1 : Nat) : Int) := by rw [w64 (by omega) (by omega)]; rfl
      refine Ev.step (f := fun k => spec_l1Put.l0 k (y.set (b * 64 + i) d[i]) (b : Int) d ((i + 1 : Nat) : Int)) (fun k => ?_) (ih _ ?_)
      · simp only [spec_l1Put.l0]
        rw [if_pos (by omega), if_pos (by omega), if_pos (by omega), e1, e2, if_pos (by omega), if_pos (by omega), e3, Int.toNat_natCast, rd_nat d i (by omega)]
      · rw [hy]; exact splice_set x d (b * 64) i (by omega) (by omega)
  have := key x (by simp [splice])
  refine Ev.congr (f := fun k => spec_l1Put.l0 k x (b : Int) d ((0 : Nat) : Int)) (fun k => by unfold spec_l1Put.f; rfl) this
theorem lay_is (k : Nat) (x d : List Int) (b : Nat) (hx : x.length ≤ 131072) (hd : d.length = 64) (hb : b * 64 + 64 ≤ x.length) : impl_lay.f k x (wrap64 ((b : Int) * 64)) d = some (splice x (b * 64) d) := by
  have e1 : wrap64 ((b : Int) * 64) = ((b * 64 : Nat) : Int) := by rw [w64 (by omega) (by omega)]; omega
  unfold impl_lay.f
  rw [e1, if_pos (by omega), Int.toNat_natCast, if_pos (by omega), if_pos (by omega)]
/-- What a valid disk's pending writes are. -/
theorem valid_facts (l : List Int) (p : List S62) (h : validD l p = true) : l.length ≤ 131072 ∧ p.length ≤ 600 ∧ l.length % 64 = 0 ∧ ∀ (i : Nat) (hi : i < p.length), ∃ b : Nat, p[i].f0 = (b : Int) ∧ b * 64 + 64 ≤ l.length ∧ p[i].f1.length = 64 := by
  unfold validD at h
  rw [Bool.and_eq_true] at h
  have h1 := of_decide_eq_true h.1
  refine ⟨by omega, by omega, by omega, fun i hi => ?_⟩
  have h2 := List.all_eq_true.1 h.2 p[i] (List.getElem_mem hi)
  unfold okW at h2
  obtain ⟨a, b, c⟩ := of_decide_eq_true h2
  obtain ⟨n, hn⟩ := Int.eq_ofNat_of_zero_le a
  exact ⟨n, hn, by omega, c⟩
theorem copy_s (l : List Int) (p : List S62) (hl : l.length ≤ 1048576) (hp : p.length ≤ 1048576 ∧ ∀ y ∈ p, y.f1.length ≤ 1048576) : Ev (fun k => spec_l1CopyDisk.f k l p) (l, p) := by
  refine Ev.congr (f := fun k => spec_l1CopyDisk.l0 k 0 l p l []) (fun k => by unfold spec_l1CopyDisk.f; rw [(cp_is l hl).1, Option.bind_some]) ?_
  have := down (P := fun i => Ev (fun k => spec_l1CopyDisk.l0 k (i : Int) l p l (p.take i)) (l, p)) p.length ?_ ?_
  · simpa using this
  · exact Ev.step (f := fun _ => some (l, p)) (fun k => by simp only [spec_l1CopyDisk.l0]; rw [if_neg (by omega), List.take_length]) (Ev.now _)
  · intro i hi h
    have hw : wrap64 ((i : Int) + 1) = ((i + 1 : Nat) : Int) := by rw [w64 (by omega) (by omega)]; rfl
    rw [List.take_succ_eq_append_getElem hi] at h
    exact Ev.step (fun k => by simp only [spec_l1CopyDisk.l0]; rw [if_pos (by omega), if_pos (by omega), rd62 p i hi, (cp_is _ (hp.2 _ (List.getElem_mem hi))).1, Option.bind_some, if_pos (by rw [List.length_take]; omega), hw]) h
theorem copy_i (l : List Int) (p : List S62) (hl : l.length ≤ 1048576) (hp : p.length ≤ 1048576 ∧ ∀ y ∈ p, y.f1.length ≤ 1048576) : Ev (fun k => impl_twin.f k l p) (l, p) := by
  refine Ev.congr (f := fun k => impl_twin.l0 k p (p.length : Int) 0 l []) (fun k => by unfold impl_twin.f; rw [(cp_is l hl).2, Option.bind_some]) ?_
  have := down (P := fun i => Ev (fun k => impl_twin.l0 k p (p.length : Int) (i : Int) l (p.take i)) (l, p)) p.length ?_ ?_
  · simpa using this
  · exact Ev.step (f := fun _ => some (l, p)) (fun k => by simp only [impl_twin.l0]; rw [if_neg (by omega), List.take_length]) (Ev.now _)
  · intro i hi h
    have hw : wrap64 ((i : Int) + 1) = ((i + 1 : Nat) : Int) := by rw [w64 (by omega) (by omega)]; rfl
    rw [List.take_succ_eq_append_getElem hi] at h
    exact Ev.step (fun k => by simp only [impl_twin.l0]; rw [if_pos (by omega), if_pos (by omega), if_pos (by omega), rd62 p i hi, (cp_is _ (hp.2 _ (List.getElem_mem hi))).2, Option.bind_some, if_pos (by rw [List.length_take]; omega), hw]) h
end DK
namespace DR
/-- The state of a reader: the bytes, how many draws there were. -/
def okS (c : List Int) (a : Int) : Prop := c.length ≤ 1048576 ∧ (∀ x ∈ c, 0 ≤ x ∧ x ≤ 255) ∧ 0 ≤ a
theorem next_ev (c : List Int) (a z n : Int) (hc : c.length ≤ 1048576) (hb : ∀ x ∈ c, 0 ≤ x ∧ x ≤ 255) (h0 : 0 ≤ a) (h1 : a ≤ 1000000) (hn : n ≤ 1000000) : ∃ v, spec_l1Next.f c a z n = some (v, a + 1, z) ∧ 0 ≤ v ∧ (0 < n → v < n) ∧ (n < 1 → v = 0) := by
  unfold spec_l1Next.f
  have w1 : wrap64 (a + 1) = a + 1 := w64 (by omega) (by omega)
  have w2 : wrap64 (a + 1 - 1) = a := by rw [w64 (by omega) (by omega)]; omega
  rw [w1, w2, w1]
  by_cases c1 : n < 1
  · exact ⟨0, by rw [if_pos c1], by omega, fun h => by omega, fun _ => rfl⟩
  rw [if_neg c1]
  have modk : ∀ x : Int, 0 ≤ x → 0 ≤ Int.tmod x n ∧ (0 < n → Int.tmod x n < n) := fun x hx => by
    rw [Int.tmod_eq_emod_of_nonneg hx]
    exact ⟨Int.emod_nonneg _ (by omega), fun h => Int.emod_lt_of_pos _ h⟩
  by_cases c2 : (c.length : Int) = 0
  · have := modk (wrap64 (a * 7)) (by rw [w64 (by omega) (by omega)]; omega)
    exact ⟨_, by rw [if_pos c2, if_neg (by omega)], this.1, this.2, fun h => by omega⟩
  rw [if_neg c2]
  have hk : 0 < (c.length : Int) := by omega
  have m1 : 0 ≤ Int.tmod a (c.length : Int) ∧ Int.tmod a (c.length : Int) < (c.length : Int) := by
    rw [Int.tmod_eq_emod_of_nonneg h0]
    exact ⟨Int.emod_nonneg _ (by omega), Int.emod_lt_of_pos _ hk⟩
  have w3 : wrap64 (a + 1) = a + 1 := w1
  have m2 : 0 ≤ Int.tmod (a + 1) (c.length : Int) ∧ Int.tmod (a + 1) (c.length : Int) < (c.length : Int) := by
    rw [Int.tmod_eq_emod_of_nonneg (by omega)]
    exact ⟨Int.emod_nonneg _ (by omega), Int.emod_lt_of_pos _ hk⟩
  have r1 := hb _ (rd_mem m1.1 m1.2)
  have r2 := hb _ (rd_mem m2.1 m2.2)
  have d1 : 0 ≤ Int.tdiv a (c.length : Int) ∧ Int.tdiv a (c.length : Int) ≤ a := by
    rw [Int.tdiv_eq_ediv_of_nonneg h0]
    refine ⟨Int.ediv_nonneg h0 (by omega), Int.ediv_le_self _ h0⟩
  obtain ⟨y1, hy1⟩ : ∃ y, rd c (Int.tmod a (c.length : Int)) = y := ⟨_, rfl⟩
  obtain ⟨y2, hy2⟩ : ∃ y, rd c (Int.tmod (a + 1) (c.length : Int)) = y := ⟨_, rfl⟩
  obtain ⟨q, hq⟩ : ∃ y, Int.tdiv a (c.length : Int) = y := ⟨_, rfl⟩
  rw [hy1] at r1
  rw [hy2] at r2
  rw [hq] at d1
  rw [if_pos m1.1, if_pos m1.2, hy1, hq, hy2]
  have w4 : wrap64 y1 = y1 := w64 (by omega) (by omega)
  have w5 : wrap64 q = q := w64 (by omega) (by omega)
  have w6 : wrap64 (q * 37) = q * 37 := w64 (by omega) (by omega)
  have w7 : wrap64 (y1 + q * 37) = y1 + q * 37 := w64 (by omega) (by omega)
  rw [w4, w5, w6, w7]
  by_cases c3 : n > 200
  · have w8 : wrap64 ((y1 + q * 37) * 251) = (y1 + q * 37) * 251 := w64 (by omega) (by omega)
    have w9 : wrap64 (wrap64 y2 * 13) = y2 * 13 := by rw [w64 (x := y2) (by omega) (by omega), w64 (by omega) (by omega)]
    have wa : wrap64 ((y1 + q * 37) * 251 + y2 * 13) = (y1 + q * 37) * 251 + y2 * 13 := w64 (by omega) (by omega)
    have wb : wrap64 ((y1 + q * 37) * 251 + y2 * 13 + a) = (y1 + q * 37) * 251 + y2 * 13 + a := w64 (by omega) (by omega)
    rw [if_pos c3, if_pos m2.1, if_pos m2.2, if_neg (by omega), w8, w9, wa, wb]
    have := modk ((y1 + q * 37) * 251 + y2 * 13 + a) (by omega)
    exact ⟨_, rfl, this.1, this.2, fun h => by omega⟩
  · rw [if_neg c3, if_neg (by omega)]
    have := modk (y1 + q * 37) (by omega)
    exact ⟨_, rfl, this.1, this.2, fun h => by omega⟩
theorem chance_ev (c : List Int) (a z n : Int) (hc : c.length ≤ 1048576) (hb : ∀ x ∈ c, 0 ≤ x ∧ x ≤ 255) (h0 : 0 ≤ a) (h1 : a ≤ 1000000) (hn : n ≤ 1000000) : ∃ b, spec_l1Chance.f c a z n = some (b, a + 1, z) := by
  obtain ⟨v, h, _⟩ := next_ev c a z n hc hb h0 h1 hn
  exact ⟨_, by unfold spec_l1Chance.f; rw [h, Option.bind_some]⟩
theorem source_ev (c : List Int) (hc : c.length ≤ 1048576) : ∃ z, spec_l1Source.f c = some (c, 0, z) ∧ 0 ≤ z ∧ z ≤ 12 := by
  unfold spec_l1Source.f
  by_cases h : (wrap64 ((c.length : Int) / 16)) > 12
  · exact ⟨12, by rw [if_pos h], by omega, by omega⟩
  · rw [w64 (by omega) (by omega)] at h
    exact ⟨(c.length : Int) / 16, by rw [w64 (by omega) (by omega), if_neg h], by omega, by omega⟩
theorem magic_ev (c : List Int) (a z : Int) (hc : c.length ≤ 1048576) (hb : ∀ x ∈ c, 0 ≤ x ∧ x ≤ 255) (h0 : 0 ≤ a) (h1 : a ≤ 1000000) : ∃ m, spec_l1Magic.f c a z = some (m, a + 1, z) ∧ m.length = 4 ∧ ∀ x ∈ m, 0 ≤ x ∧ x ≤ 255 := by
  obtain ⟨b, h⟩ := chance_ev c a z 6 hc hb h0 h1 (by omega)
  unfold spec_l1Magic.f
  cases b with
  | true => exact ⟨[106, 108, 111, 104], by rw [h, Option.bind_some, if_pos rfl], rfl, by decide⟩
  | false => exact ⟨[106, 108, 111, 103], by rw [h, Option.bind_some, if_neg (by simp)], rfl, by decide⟩
theorem lay_ev (c : List Int) (a z : Int) (m : List Int) (hm : m.length = 4) (hmb : ∀ x ∈ m, 0 ≤ x ∧ x ≤ 255) (d : Nat) : ∀ (i : Nat) (x : List Int), i + d = 4 → x.length = 64 → (∀ y ∈ x, 0 ≤ y ∧ y ≤ 255) → ∃ r, Ev (fun k => spec_l1Fill.l1 k x m (i : Int) c a z) (r, a, z) ∧ r.length = 64 ∧ ∀ y ∈ r, 0 ≤ y ∧ y ≤ 255 := by
  induction d with
  | zero => intro i x hi hx hb; exact ⟨x, Ev.step (f := fun _ => some (x, a, z)) (fun k => by simp only [spec_l1Fill.l1]; rw [if_neg (by omega)]) (Ev.now _), hx, hb⟩
  | succ d ih =>
    intro i x hi hx hb
    have hw : wrap64 ((i : Int) + 1) = ((i + 1 : Nat) : Int) := by rw [w64 (by omega) (by omega)]; rfl
    have hr := hmb _ (rd_mem (l := m) (i := (i : Int)) (by omega) (by omega))
    obtain ⟨r, h1, h2, h3⟩ := ih (i + 1) (x.set i (rd m (i : Int))) (by omega) (by simpa using hx) (fun y hy => by
      rcases List.mem_or_eq_of_mem_set hy with h | h
      · exact hb y h
      · subst h; exact hr)
    refine ⟨r, Ev.step (fun k => ?_) h1, h2, h3⟩
    simp only [spec_l1Fill.l1]
    rw [if_pos (by omega), if_pos (by omega), if_pos (by omega), hw, Int.toNat_natCast]
theorem fill_some (c : List Int) (a z : Int) (hc : c.length ≤ 1048576) (hb : ∀ x ∈ c, 0 ≤ x ∧ x ≤ 255) (h0 : 0 ≤ a) (h1 : a ≤ 999990) : ∃ r a', Ev (fun k => spec_l1Fill.f k c a z) (r, a', z) ∧ r.length = 64 ∧ (∀ y ∈ r, 0 ≤ y ∧ y ≤ 255) ∧ a ≤ a' ∧ a' ≤ a + 5 := by
  obtain ⟨v, hv, _, _⟩ := next_ev c a z 256 hc hb h0 (by omega) (by omega)
  obtain ⟨p, hp, p0, p1, _⟩ := next_ev c (a + 1) z 64 hc hb (by omega) (by omega) (by omega)
  obtain ⟨q, hq, _, _⟩ := next_ev c (a + 1 + 1) z 256 hc hb (by omega) (by omega) (by omega)
  obtain ⟨b, hch⟩ := chance_ev c (a + 1 + 1 + 1) z 5 hc hb (by omega) (by omega) (by omega)
  have hv2 : 0 ≤ v % 256 ∧ v % 256 ≤ 255 := by omega
  have hq2 : 0 ≤ q % 256 ∧ q % 256 ≤ 255 := by omega
  have fin : ∀ x : List Int, x.length = 64 → (∀ y ∈ x, 0 ≤ y ∧ y ≤ 255) → ∃ r a', Ev (fun k => spec_l1Fill.l0 k x (v % 256) ((64 : Nat) : Int) c (a + 1) z) (r, a', z) ∧ r.length = 64 ∧ (∀ y ∈ r, 0 ≤ y ∧ y ≤ 255) ∧ a ≤ a' ∧ a' ≤ a + 5 := by
    intro x hx hxb
    have hsb : ∀ y ∈ x.set p.toNat (q % 256), 0 ≤ y ∧ y ≤ 255 := fun y hy => by
      rcases List.mem_or_eq_of_mem_set hy with h | h
      · exact hxb y h
      · subst h; exact hq2
    cases b with
    | true =>
      obtain ⟨m, hm, ml, mb⟩ := magic_ev c (a + 1 + 1 + 1 + 1) z hc hb (by omega) (by omega)
      obtain ⟨r, hr, rl, rb⟩ := lay_ev c (a + 1 + 1 + 1 + 1 + 1) z m ml mb 4 0 (x.set p.toNat (q % 256)) (by omega) (by simpa using hx) hsb
      refine ⟨r, _, Ev.step (fun k => ?_) hr, rl, rb, by omega, by omega⟩
      simp only [spec_l1Fill.l0]
      rw [if_neg (by omega), hp, Option.bind_some, hq, Option.bind_some, if_pos p0, if_pos (by have := p1 (by omega); omega), Option.bind_some, hch, Option.bind_some, if_pos rfl, hm, Option.bind_some]; rfl
    | false =>
      refine ⟨x.set p.toNat (q % 256), a + 1 + 1 + 1 + 1, Ev.step (f := fun _ => some (x.set p.toNat (q % 256), a + 1 + 1 + 1 + 1, z)) (fun k => ?_) (Ev.now _), by simpa using hx, hsb, by omega, by omega⟩
      simp only [spec_l1Fill.l0]
      rw [if_neg (by omega), hp, Option.bind_some, hq, Option.bind_some, if_pos p0, if_pos (by have := p1 (by omega); omega), Option.bind_some, hch, Option.bind_some, if_neg (by simp)]
  have key : ∀ (d i : Nat) (x : List Int), i + d = 64 → x.length = i → (∀ y ∈ x, 0 ≤ y ∧ y ≤ 255) → ∃ r a', Ev (fun k => spec_l1Fill.l0 k x (v % 256) (i : Int) c (a + 1) z) (r, a', z) ∧ r.length = 64 ∧ (∀ y ∈ r, 0 ≤ y ∧ y ≤ 255) ∧ a ≤ a' ∧ a' ≤ a + 5 := by
    intro d
    induction d with
    | zero => intro i x hi hx hxb; obtain rfl : i = 64 := by omega
              exact fin x hx hxb
    | succ d ih =>
      intro i x hi hx hxb
      have hw : wrap64 ((i : Int) + 1) = ((i + 1 : Nat) : Int) := by rw [w64 (by omega) (by omega)]; rfl
      obtain ⟨r, a', h, h2⟩ := ih (i + 1) (x ++ [v % 256]) (by omega) (by simp [hx]) (fun y hy => by
        rcases List.mem_append.1 hy with h | h
        · exact hxb y h
        · rw [List.mem_singleton] at h; subst h; exact hv2)
      refine ⟨r, a', Ev.step (fun k => ?_) h, h2⟩
      simp only [spec_l1Fill.l0]
      have q0 : i < 64 := Nat.lt_of_lt_of_le (Nat.lt_add_of_pos_right (Nat.succ_pos d)) (Nat.le_of_eq hi)
      have q1 : (i : Int) < 64 := by exact_mod_cast q0
      have q2 : x.length < 140737488355328 := Nat.lt_of_lt_of_le (hx ▸ q0) (by decide)
      rw [if_pos q1, if_pos q2, hw]
  obtain ⟨r, a', h, h2⟩ := key 64 0 [] rfl rfl (by simp)
  exact ⟨r, a', Ev.congr (fun k => by unfold spec_l1Fill.f; rw [hv, Option.bind_some]; rfl) h, h2⟩
/-- A drawn disk's bounds. -/
def okD (l : List Int) (p : List S62) : Prop := l.length ≤ 140000 ∧ p.length ≤ 601 ∧ ∀ y ∈ p, y.f1.length ≤ 64
theorem j7_ev (c : List Int) (z x6 a : Int) (l : List Int) (p : List S62) (hc : c.length ≤ 1048576) (hb : ∀ x ∈ c, 0 ≤ x ∧ x ≤ 255) (h0 : 0 ≤ a) (h1 : a ≤ 900000) (hl : l.length ≤ 1000) (hp : p.length ≤ 601) (hd : ∀ y ∈ p, y.f1.length ≤ 64) :
    ∃ l' p' a', Ev (fun k => spec_l1DrawDisk.j7 k x6 c a z l p) (l', p', a', z) ∧ okD l' p' ∧ a ≤ a' ∧ a' ≤ a + 1 := by
  by_cases c4 : x6 = 4
  · refine ⟨[], p, a, Ev.step (f := fun _ => some ([], p, a, z)) (fun k => ?_) (Ev.now _), ⟨by simp, hp, hd⟩, by omega, by omega⟩
    simp only [spec_l1DrawDisk.j7]
    rw [if_pos c4, if_neg (by omega)]
  by_cases c5 : x6 = 5
  · obtain ⟨v, hv, v0, v1, _⟩ := next_ev c a z 2 hc hb h0 (by omega) (by omega)
    have v2 := v1 (by omega)
    have e : wrap64 ((wrap64 (2048 + v)) * 64) = (2048 + v) * 64 := by rw [w64 (x := 2048 + v) (by omega) (by omega), w64 (by omega) (by omega)]
    refine ⟨List.replicate ((2048 + v) * 64).toNat 0, p, a + 1, Ev.step (f := fun _ => some (List.replicate ((2048 + v) * 64).toNat 0, p, a + 1, z)) (fun k => ?_) (Ev.now _), ⟨by rw [List.length_replicate]; omega, hp, hd⟩, by omega, by omega⟩
    simp only [spec_l1DrawDisk.j7]
    rw [if_neg c4, if_pos c5, hv, Option.bind_some]
    simp only [e]
    rw [if_pos (by omega), if_pos (by omega)]
  · refine ⟨l, p, a, Ev.step (f := fun _ => some (l, p, a, z)) (fun k => ?_) (Ev.now _), ⟨by omega, hp, hd⟩, by omega, by omega⟩
    simp only [spec_l1DrawDisk.j7]
    rw [if_neg c4, if_neg c5]
theorem j5_ev (c : List Int) (z x6 a : Int) (l : List Int) (p : List S62) (hc : c.length ≤ 1048576) (hb : ∀ x ∈ c, 0 ≤ x ∧ x ≤ 255) (h0 : 0 ≤ a) (h1 : a ≤ 900000) (hl : l.length ≤ 1000) (hp : p.length ≤ 601) (hd : ∀ y ∈ p, y.f1.length = 64) :
    ∃ l' p' a', Ev (fun k => spec_l1DrawDisk.j5 k x6 c a z l p) (l', p', a', z) ∧ okD l' p' ∧ a ≤ a' ∧ a' ≤ a + 1 := by
  have no : ∃ l' p' a', Ev (fun k => spec_l1DrawDisk.j6 k x6 false c a z l p) (l', p', a', z) ∧ okD l' p' ∧ a ≤ a' ∧ a' ≤ a + 1 := by
    obtain ⟨l', p', a', h, r⟩ := j7_ev c z x6 a l p hc hb h0 h1 hl hp (fun y hy => Nat.le_of_eq (hd y hy))
    exact ⟨l', p', a', Ev.step (fun k => by simp only [spec_l1DrawDisk.j6]; rw [if_neg (by decide)]) h, r⟩
  by_cases c3 : x6 = 3
  · by_cases cp : (p.length : Int) > 0
    · have h64 : (rd_T62 p 0).f1.length = 64 := by
        have := DK.rd62 p 0 (by omega)
        rw [show ((0 : Nat) : Int) = 0 from rfl] at this
        rw [this]; exact hd _ (List.getElem_mem _)
      obtain ⟨l', p', a', h, r⟩ := j7_ev c z x6 a l (p.set (0 : Int).toNat (⟨(rd_T62 p 0).f0, (((rd_T62 p 0).f1).drop 1)⟩ : S62)) hc hb h0 h1 hl (by rw [List.length_set]; exact hp) (fun y hy => by
        rcases List.mem_or_eq_of_mem_set hy with h | h
        · exact Nat.le_of_eq (hd y h)
        · subst h; show (List.drop 1 _).length ≤ 64; rw [List.length_drop]; omega)
      refine ⟨l', p', a', Ev.step (f := fun k => spec_l1DrawDisk.j6 k x6 true c a z l p) (fun k => by simp only [spec_l1DrawDisk.j5]; rw [if_pos c3, decide_eq_true cp]) (Ev.step (fun k => ?_) h), r⟩
      simp only [spec_l1DrawDisk.j6]
      rw [if_pos trivial, if_pos (by omega), if_pos (by omega)]
    · obtain ⟨l', p', a', h, r⟩ := no
      exact ⟨l', p', a', Ev.step (fun k => by simp only [spec_l1DrawDisk.j5]; rw [if_pos c3, decide_eq_false cp]) h, r⟩
  · obtain ⟨l', p', a', h, r⟩ := no
    exact ⟨l', p', a', Ev.step (fun k => by simp only [spec_l1DrawDisk.j5]; rw [if_neg c3]) h, r⟩
theorem j3_ev (c : List Int) (z x3 x6 a : Int) (l : List Int) (p : List S62) (hc : c.length ≤ 1048576) (hb : ∀ x ∈ c, 0 ≤ x ∧ x ≤ 255) (h0 : 0 ≤ a) (h1 : a ≤ 900000) (hl : l.length ≤ 1000) (hp : p.length ≤ 601) (hd : ∀ y ∈ p, y.f1.length = 64) :
    ∃ l' p' a', Ev (fun k => spec_l1DrawDisk.j3 k x3 x6 c a z l p) (l', p', a', z) ∧ okD l' p' ∧ a ≤ a' ∧ a' ≤ a + 1 := by
  have no : ∃ l' p' a', Ev (fun k => spec_l1DrawDisk.j4 k x3 x6 false c a z l p) (l', p', a', z) ∧ okD l' p' ∧ a ≤ a' ∧ a' ≤ a + 1 := by
    obtain ⟨l', p', a', h, r⟩ := j5_ev c z x6 a l p hc hb h0 h1 hl hp hd
    exact ⟨l', p', a', Ev.step (fun k => by simp only [spec_l1DrawDisk.j4]; rw [if_neg (by decide)]) h, r⟩
  by_cases c2 : x6 = 2
  · by_cases cp : (p.length : Int) > 0
    · have e : wrap64 ((p.length : Int) - 1) = ((p.length - 1 : Nat) : Int) := by rw [w64 (by omega) (by omega)]; omega
      obtain ⟨l', p', a', h, r⟩ := j5_ev c z x6 a l (p.set (p.length - 1) (⟨x3, (rd_T62 p ((p.length - 1 : Nat) : Int)).f1⟩ : S62)) hc hb h0 h1 hl (by rw [List.length_set]; exact hp) (fun y hy => by
        rcases List.mem_or_eq_of_mem_set hy with h | h
        · exact hd y h
        · subst h; show (rd_T62 p _).f1.length = 64; rw [DK.rd62 p _ (by omega)]; exact hd _ (List.getElem_mem _))
      refine ⟨l', p', a', Ev.step (f := fun k => spec_l1DrawDisk.j4 k x3 x6 true c a z l p) (fun k => by simp only [spec_l1DrawDisk.j3]; rw [if_pos c2, decide_eq_true cp]) (Ev.step (fun k => ?_) h), r⟩
      simp only [spec_l1DrawDisk.j4]
      rw [if_pos trivial, e, if_pos (by omega), if_pos (by omega), Int.toNat_natCast]
    · obtain ⟨l', p', a', h, r⟩ := no
      exact ⟨l', p', a', Ev.step (fun k => by simp only [spec_l1DrawDisk.j3]; rw [if_pos c2, decide_eq_false cp]) h, r⟩
  · obtain ⟨l', p', a', h, r⟩ := no
    exact ⟨l', p', a', Ev.step (fun k => by simp only [spec_l1DrawDisk.j3]; rw [if_neg c2]) h, r⟩
theorem l1_ev (c : List Int) (z x3 x6 x7 : Int) (l : List Int) (hc : c.length ≤ 1048576) (hb : ∀ x ∈ c, 0 ≤ x ∧ x ≤ 255) (hl : l.length ≤ 900) (h3 : x3 ≤ 1000000) (h7 : x7 ≤ 601) : ∀ (d : Nat) (i : Int) (a : Int) (p : List S62), x7 - i ≤ (d : Int) → 0 ≤ i → 0 ≤ a → a ≤ 800000 - 6 * (d : Int) → (p.length : Int) ≤ i → p.length + d ≤ 601 → (∀ y ∈ p, y.f1.length = 64) →
    ∃ l' p' a', Ev (fun k => spec_l1DrawDisk.l1 k x3 x6 x7 i c a z l p) (l', p', a', z) ∧ okD l' p' ∧ a ≤ a' ∧ a' ≤ a + 6 * (d : Int) + 1 := by
  intro d
  have fin : ∀ (i a : Int) (p : List S62), ¬ i < x7 → 0 ≤ a → a ≤ 800000 → p.length ≤ 601 → (∀ y ∈ p, y.f1.length = 64) → ∃ l' p' a', Ev (fun k => spec_l1DrawDisk.l1 k x3 x6 x7 i c a z l p) (l', p', a', z) ∧ okD l' p' ∧ a ≤ a' ∧ a' ≤ a + 1 := by
    intro i a p hi h0 h1 hp hd
    by_cases c1 : x6 = 1
    · obtain ⟨l', p', a', h, r⟩ := j3_ev c z x3 x6 a (l ++ [0]) p hc hb h0 (by omega) (by rw [List.length_append]; simp only [List.length_cons, List.length_nil]; omega) hp hd
      exact ⟨l', p', a', Ev.step (fun k => by simp only [spec_l1DrawDisk.l1]; rw [if_neg hi, if_pos c1, if_pos (by omega)]) h, r⟩
    · obtain ⟨l', p', a', h, r⟩ := j3_ev c z x3 x6 a l p hc hb h0 (by omega) (by omega) hp hd
      exact ⟨l', p', a', Ev.step (fun k => by simp only [spec_l1DrawDisk.l1]; rw [if_neg hi, if_neg c1]) h, r⟩
  induction d with
  | zero =>
    intro i a p hi i0 h0 h1 hpi hp hd
    obtain ⟨l', p', a', h, r1, r2, r3⟩ := fin i a p (by omega) h0 (by omega) (by omega) hd
    exact ⟨l', p', a', h, r1, r2, by omega⟩
  | succ d ih =>
    intro i a p hi i0 h0 h1 hpi hp hd
    by_cases ci : i < x7
    · obtain ⟨v, hv, _⟩ := next_ev c a z x3 hc hb h0 (by omega) h3
      obtain ⟨f, a1, hf, f64, _, ha1, ha2⟩ := fill_some c (a + 1) z hc hb (by omega) (by omega)
      have hw : wrap64 (i + 1) = i + 1 := w64 (by omega) (by omega)
      obtain ⟨l', p', a', h, r1, r2, r3⟩ := ih (i + 1) a1 (p ++ [⟨v, f⟩]) (by omega) (by omega) (by omega) (by omega) (by rw [List.length_append]; simp only [List.length_cons, List.length_nil]; omega) (by rw [List.length_append]; simp only [List.length_cons, List.length_nil]; omega) (fun y hy => by
        rcases List.mem_append.1 hy with h | h
        · exact hd y h
        · rw [List.mem_singleton] at h; subst h; exact f64)
      refine ⟨l', p', a', Ev.step (f := fun k => (spec_l1Fill.f k c (a + 1) z).bind fun t => spec_l1DrawDisk.l1 k x3 x6 x7 (i + 1) c t.2.1 t.2.2 l (p ++ [⟨v, t.1⟩])) (fun k => ?_) (hf.bind h), r1, by omega, by omega⟩
      simp only [spec_l1DrawDisk.l1]
      rw [if_pos ci, hv, Option.bind_some, hw]
      congr 1
      funext t
      rw [if_pos (by omega)]
    · obtain ⟨l', p', a', h, r1, r2, r3⟩ := fin i a p ci h0 (by omega) (by omega) hd
      exact ⟨l', p', a', h, r1, r2, by omega⟩
theorem l0_ev (c : List Int) (z : Int) (n : Nat) (hc : c.length ≤ 1048576) (hb : ∀ x ∈ c, 0 ≤ x ∧ x ≤ 255) (hz0 : 0 ≤ z) (hz : z ≤ 12) (hn : n ≤ 8) : ∀ (d i : Nat) (a : Int) (l : List Int), i + d = n → 0 ≤ a → a ≤ 100 - 6 * (d : Int) → l.length = n * 64 →
    ∃ l' p' a', Ev (fun k => spec_l1DrawDisk.l0 k (n : Int) (i : Int) c a z l []) (l', p', a', z) ∧ okD l' p' ∧ 0 ≤ a' ∧ a' ≤ 4000 := by
  intro d
  induction d with
  | zero =>
    intro i a l hi h0 h1 hl
    obtain ⟨k0, hk, k00, k1, _⟩ := next_ev c a z 30 hc hb h0 (by omega) (by omega)
    have e4 : wrap64 (4 + z) = 4 + z := w64 (by omega) (by omega)
    obtain ⟨v, hv, v0, v1, _⟩ := next_ev c (a + 1) z (4 + z) hc hb (by omega) (by omega) (by omega)
    have v2 := v1 (by omega)
    by_cases ck : k0 = 0
    · obtain ⟨u, hu, u0, u1, _⟩ := next_ev c (a + 1 + 1) z 2 hc hb (by omega) (by omega) (by omega)
      have u2 := u1 (by omega)
      have e6 : wrap64 (600 + u) = 600 + u := w64 (by omega) (by omega)
      obtain ⟨l', p', a', h, r1, r2, r3⟩ := l1_ev c z n k0 (600 + u) l hc hb (by omega) (by omega) (by omega) 601 0 (a + 1 + 1 + 1) [] (by omega) (by omega) (by omega) (by omega) (by simp) (by simp) (by simp)
      refine ⟨l', p', a', Ev.step (f := fun k => spec_l1DrawDisk.j1 k (n : Int) k0 (600 + u) c (a + 1 + 1 + 1) z l []) (fun k => ?_) (Ev.step (fun k => by simp only [spec_l1DrawDisk.j1]) h), r1, by omega, by omega⟩
      simp only [spec_l1DrawDisk.l0]
      rw [if_neg (by omega), hk, Option.bind_some]
      simp only [e4]
      rw [hv, Option.bind_some, if_pos ck, hu, Option.bind_some]
      simp only [e6]
    · obtain ⟨l', p', a', h, r1, r2, r3⟩ := l1_ev c z n k0 v l hc hb (by omega) (by omega) (by omega) 601 0 (a + 1 + 1) [] (by omega) (by omega) (by omega) (by omega) (by simp) (by simp) (by simp)
      refine ⟨l', p', a', Ev.step (f := fun k => spec_l1DrawDisk.j1 k (n : Int) k0 v c (a + 1 + 1) z l []) (fun k => ?_) (Ev.step (fun k => by simp only [spec_l1DrawDisk.j1]) h), r1, by omega, by omega⟩
      simp only [spec_l1DrawDisk.l0]
      rw [if_neg (by omega), hk, Option.bind_some]
      simp only [e4]
      rw [hv, Option.bind_some, if_neg ck]
  | succ d ih =>
    intro i a l hi h0 h1 hl
    have hw : wrap64 ((i : Int) + 1) = ((i + 1 : Nat) : Int) := by rw [w64 (by omega) (by omega)]; rfl
    obtain ⟨b, hch⟩ := chance_ev c a z 3 hc hb h0 (by omega) (by omega)
    cases b with
    | true =>
      obtain ⟨l', p', a', h, r⟩ := ih (i + 1) (a + 1) l (by omega) (by omega) (by omega) hl
      refine ⟨l', p', a', Ev.step (fun k => ?_) h, r⟩
      simp only [spec_l1DrawDisk.l0]
      rw [if_pos (by omega), hch, Option.bind_some, if_pos rfl, hw]
    | false =>
      obtain ⟨f, a1, hf, f64, _, ha1, ha2⟩ := fill_some c (a + 1) z hc hb (by omega) (by omega)
      have hpt := DK.put_ev l f i (by omega) f64 (by omega)
      obtain ⟨l', p', a', h, r⟩ := ih (i + 1) a1 (splice l (i * 64) f) (by omega) (by omega) (by omega) (by rw [length_splice _ _ _ (by omega)]; exact hl)
      refine ⟨l', p', a', Ev.step (f := fun k => (spec_l1Fill.f k c (a + 1) z).bind fun t => (spec_l1Put.f k l (i : Int) t.1).bind fun u => spec_l1DrawDisk.l0 k (n : Int) ((i + 1 : Nat) : Int) c t.2.1 t.2.2 u []) (fun k => ?_) (hf.bind (hpt.bind h)), r⟩
      simp only [spec_l1DrawDisk.l0]
      rw [if_pos (by omega), hch, Option.bind_some, if_neg (by simp), hw]
theorem disk_ev (c : List Int) (z : Int) (hc : c.length ≤ 1048576) (hb : ∀ x ∈ c, 0 ≤ x ∧ x ≤ 255) (hz0 : 0 ≤ z) (hz : z ≤ 12) : ∃ l p a, Ev (fun k => spec_l1DrawDisk.f k c 0 z) (l, p, a, z) ∧ okD l p ∧ 0 ≤ a ∧ a ≤ 4000 := by
  obtain ⟨v, hv, v0, v1, _⟩ := next_ev c 0 z 8 hc hb (by omega) (by omega) (by omega)
  have v2 := v1 (by omega)
  obtain ⟨n, hn⟩ := Int.eq_ofNat_of_zero_le (show 0 ≤ 1 + v by omega)
  have e1 : wrap64 (1 + v) = (n : Int) := by rw [w64 (by omega) (by omega)]; exact hn
  have e2 : wrap64 ((n : Int) * 64) = ((n * 64 : Nat) : Int) := by rw [w64 (by omega) (by omega)]; omega
  have hN : spec_NewDisk.f (n : Int) = some (List.replicate (n * 64) 0, []) := by
    unfold spec_NewDisk.f
    rw [if_neg (by omega), if_neg (by omega), e2, if_pos (by omega), if_pos (by omega), Int.toNat_natCast]
  obtain ⟨l, p, a, h, r⟩ := l0_ev c z n hc hb hz0 hz (by omega) n 0 (0 + 1) (List.replicate (n * 64) 0) (by omega) (by omega) (by omega) (by simp)
  exact ⟨l, p, a, Ev.congr (fun k => by unfold spec_l1DrawDisk.f; rw [hv, Option.bind_some]; simp only [e1]; rw [hN, Option.bind_some]; rfl) h, r⟩
/-- Drawn operations' bounds. -/
def okO (o : List S93) : Prop := o.length ≤ 5000 ∧ ∀ y ∈ o, y.f2.length ≤ 64
theorem dj4_ev (c : List Int) (z x8 a : Int) (l : List Int) (p : List S62) (o : List S93) (hc : c.length ≤ 1048576) (hb : ∀ x ∈ c, 0 ≤ x ∧ x ≤ 255) (h0 : 0 ≤ a) (h1 : a ≤ 900000) (h8 : x8 ≤ 1000) (h80 : 0 ≤ x8) : ∃ v, Ev (fun k => spec_DrawDiskDo.j4 k o x8 c a z l p) (l, p, o, v) := by
  obtain ⟨b, hch⟩ := chance_ev c a z 2 hc hb h0 (by omega) (by omega)
  cases b with
  | true =>
    have e : wrap64 (x8 + 2) = x8 + 2 := w64 (by omega) (by omega)
    obtain ⟨v, hv, _⟩ := next_ev c (a + 1) z (x8 + 2) hc hb (by omega) (by omega) (by omega)
    exact ⟨v, Ev.step (f := fun _ => some (l, p, o, v)) (fun k => by simp only [spec_DrawDiskDo.j4]; rw [hch, Option.bind_some, if_pos rfl]; simp only [e]; rw [hv, Option.bind_some]) (Ev.now _)⟩
  | false => exact ⟨-1, Ev.step (f := fun _ => some (l, p, o, -1)) (fun k => by simp only [spec_DrawDiskDo.j4]; rw [hch, Option.bind_some, if_neg (by simp)]) (Ev.now _)⟩
theorem dl1_ev (c : List Int) (z x8 a : Int) (l : List Int) (p : List S62) (hc : c.length ≤ 1048576) (hb : ∀ x ∈ c, 0 ≤ x ∧ x ≤ 255) (h0 : 0 ≤ a) (h1 : a ≤ 900000) (h8 : x8 ≤ 1000) (h80 : 0 ≤ x8) : ∀ (d : Nat) (i : Int) (o : List S93), i ≤ (d : Int) → o.length + d ≤ 5000 → (∀ y ∈ o, y.f2.length ≤ 64) → ∃ o' v, Ev (fun k => spec_DrawDiskDo.l1 k o x8 i c a z l p) (l, p, o', v) ∧ okO o' := by
  intro d
  have fin : ∀ (i : Int) (o : List S93), ¬ i > 0 → o.length ≤ 5000 → (∀ y ∈ o, y.f2.length ≤ 64) → ∃ o' v, Ev (fun k => spec_DrawDiskDo.l1 k o x8 i c a z l p) (l, p, o', v) ∧ okO o' := by
    intro i o hi ho hd
    obtain ⟨v, h⟩ := dj4_ev c z x8 a l p o hc hb h0 h1 h8 h80
    exact ⟨o, v, Ev.step (fun k => by simp only [spec_DrawDiskDo.l1]; rw [if_neg hi]) h, ho, hd⟩
  induction d with
  | zero => intro i o hi ho hd; exact fin i o (by omega) (by omega) hd
  | succ d ih =>
    intro i o hi ho hd
    by_cases ci : i > 0
    · have e : wrap64 (i - 1) = i - 1 := w64 (by omega) (by omega)
      obtain ⟨o', v, h, r⟩ := ih (i - 1) (o ++ [⟨2, 0, []⟩]) (by omega) (by rw [List.length_append]; simp only [List.length_cons, List.length_nil]; omega) (fun y hy => by
        rcases List.mem_append.1 hy with h | h
        · exact hd y h
        · rw [List.mem_singleton] at h; subst h; simp)
      exact ⟨o', v, Ev.step (fun k => by simp only [spec_DrawDiskDo.l1]; rw [if_pos ci, if_pos (by omega), e]) h, r⟩
    · exact fin i o ci (by omega) hd
theorem dj2_step (c : List Int) (z x8 x9 x11 a : Int) (l : List Int) (p : List S62) (o : List S93) (e0 e1 : Int) (e2 : List Int) (hl : l.length ≤ 140000) (ho : o.length ≤ 1000) (h2 : e2.length ≤ 64) (h9 : 0 ≤ x9 ∧ x9 ≤ 1000) :
    ∃ y : S93, y.f2.length ≤ 64 ∧ ∀ k, spec_DrawDiskDo.j2 (k + 1) o x8 x9 x11 c a z l p e0 e1 e2 = spec_DrawDiskDo.l0 k (o ++ [y]) x8 (x9 + 1) c a z l p := by
  have e : wrap64 (x9 + 1) = x9 + 1 := w64 (by omega) (by omega)
  by_cases c1 : x11 = 1
  · refine ⟨⟨e0, wrap64 ((l.length : Int) / 64), e2⟩, h2, fun k => ?_⟩
    simp only [spec_DrawDiskDo.j2]
    rw [if_pos c1]; unfold spec_l1Blocks.f
    rw [Option.bind_some, if_neg (by omega), if_pos (by omega), e]
  · by_cases c2 : x11 = 2
    · refine ⟨⟨e0, e1, [1]⟩, by simp, fun k => ?_⟩
      simp only [spec_DrawDiskDo.j2]
      rw [if_neg c1, if_pos c2, if_pos (by omega), e]
    · refine ⟨⟨e0, e1, e2⟩, h2, fun k => ?_⟩
      simp only [spec_DrawDiskDo.j2]
      rw [if_neg c1, if_neg c2, if_pos (by omega), e]
theorem dj1_step (c : List Int) (z x8 x9 a : Int) (l : List Int) (p : List S62) (o : List S93) (e0 e1 : Int) (e2 : List Int) (hc : c.length ≤ 1048576) (hb : ∀ x ∈ c, 0 ≤ x ∧ x ≤ 255) (h0 : 0 ≤ a) (h1 : a ≤ 900000) (hl : l.length ≤ 140000) (ho : o.length ≤ 1000) (h2 : e2.length ≤ 64) (h9 : 0 ≤ x9 ∧ x9 ≤ 1000) :
    ∃ y : S93, y.f2.length ≤ 64 ∧ ∀ R, Ev (fun k => spec_DrawDiskDo.l0 k (o ++ [y]) x8 (x9 + 1) c (a + 1) z l p) R → Ev (fun k => spec_DrawDiskDo.j1 k o x8 x9 c a z l p e0 e1 e2) R := by
  obtain ⟨v, hv, _⟩ := next_ev c a z 60 hc hb h0 (by omega) (by omega)
  by_cases cv : v = 0
  · obtain ⟨y, hy, h⟩ := dj2_step c z x8 x9 v (a + 1) l p o 3 e1 e2 hl ho h2 h9
    exact ⟨y, hy, fun R hR => Ev.step (f := fun k => spec_DrawDiskDo.j2 k o x8 x9 v c (a + 1) z l p 3 e1 e2) (fun k => by simp only [spec_DrawDiskDo.j1]; rw [hv, Option.bind_some, if_pos cv]) (Ev.step h hR)⟩
  · obtain ⟨y, hy, h⟩ := dj2_step c z x8 x9 v (a + 1) l p o e0 e1 e2 hl ho h2 h9
    exact ⟨y, hy, fun R hR => Ev.step (f := fun k => spec_DrawDiskDo.j2 k o x8 x9 v c (a + 1) z l p e0 e1 e2) (fun k => by simp only [spec_DrawDiskDo.j1]; rw [hv, Option.bind_some, if_neg cv]) (Ev.step h hR)⟩
theorem dl0_ev (c : List Int) (z x8 : Int) (l : List Int) (p : List S62) (hc : c.length ≤ 1048576) (hb : ∀ x ∈ c, 0 ≤ x ∧ x ≤ 255) (hD : okD l p) (h8 : x8 ≤ 18) (h80 : 0 ≤ x8) : ∀ (d : Nat) (i : Int) (a : Int) (o : List S93), x8 - i ≤ (d : Int) → 0 ≤ i → i ≤ 100 → 0 ≤ a → a ≤ 800000 - 20 * (d : Int) → (o.length : Int) = i → (d : Int) + i ≤ 100 → (∀ y ∈ o, y.f2.length ≤ 64) →
    ∃ o' v, Ev (fun k => spec_DrawDiskDo.l0 k o x8 i c a z l p) (l, p, o', v) ∧ okO o' := by
  have hl := hD.1
  intro d
  have fin : ∀ (i a : Int) (o : List S93), ¬ i < x8 → i ≤ 100 → 0 ≤ a → a ≤ 800000 → (o.length : Int) = i → (∀ y ∈ o, y.f2.length ≤ 64) → ∃ o' v, Ev (fun k => spec_DrawDiskDo.l0 k o x8 i c a z l p) (l, p, o', v) ∧ okO o' := by
    intro i a o hi hi2 h0 h1 ho hd
    obtain ⟨b, hch⟩ := chance_ev c a z 40 hc hb h0 (by omega) (by omega)
    cases b with
    | true =>
      obtain ⟨v, hv, v0, v1, _⟩ := next_ev c (a + 1) z 2 hc hb (by omega) (by omega) (by omega)
      have v2 := v1 (by omega)
      have e : wrap64 ((wrap64 (4000 + v)) - (o.length : Int)) = 4000 + v - (o.length : Int) := by rw [w64 (x := 4000 + v) (by omega) (by omega), w64 (by omega) (by omega)]
      obtain ⟨o', u, h, r⟩ := dl1_ev c z x8 (a + 1 + 1) l p hc hb (by omega) (by omega) (by omega) h80 4001 (4000 + v - (o.length : Int)) o (by omega) (by omega) hd
      exact ⟨o', u, Ev.step (fun k => by simp only [spec_DrawDiskDo.l0]; rw [if_neg hi, hch, Option.bind_some, if_pos rfl, hv, Option.bind_some]; simp only [e]) h, r⟩
    | false =>
      obtain ⟨v, h⟩ := dj4_ev c z x8 (a + 1) l p o hc hb (by omega) (by omega) (by omega) h80
      exact ⟨o, v, Ev.step (fun k => by simp only [spec_DrawDiskDo.l0]; rw [if_neg hi, hch, Option.bind_some, if_neg (by simp)]) h, by omega, hd⟩
  induction d with
  | zero => intro i a o hi i0 i1 h0 h1 ho hdi hd; exact fin i a o (by omega) i1 h0 (by omega) ho hd
  | succ d ih =>
    intro i a o hi i0 i1 h0 h1 ho hdi hd
    by_cases ci : i < x8
    rotate_left
    · exact fin i a o ci i1 h0 (by omega) ho hd
    have hbk : spec_l1Blocks.f l p = some ((l.length : Int) / 64) := by unfold spec_l1Blocks.f; rw [w64 (by omega) (by omega)]
    obtain ⟨v, hv, _⟩ := next_ev c a z ((l.length : Int) / 64) hc hb h0 (by omega) (by omega)
    obtain ⟨f, a1, hf, f64, _, ha1, ha2⟩ := fill_some c (a + 1) z hc hb (by omega) (by omega)
    obtain ⟨b, hch⟩ := chance_ev c a1 z 3 hc hb (by omega) (by omega) (by omega)
    have go : ∀ (e0 e1 : Int) (e2 : List Int), e2.length ≤ 64 → ∃ o' u, Ev (fun k => spec_DrawDiskDo.j1 k o x8 i c (a1 + 1) z l p e0 e1 e2) (l, p, o', u) ∧ okO o' := by
      intro e0 e1 e2 h2
      obtain ⟨y, hy, hs⟩ := dj1_step c z x8 i (a1 + 1) l p o e0 e1 e2 hc hb (by omega) (by omega) hl (by omega) h2 ⟨i0, by omega⟩
      obtain ⟨o', u, h, r⟩ := ih (i + 1) (a1 + 1 + 1) (o ++ [y]) (by omega) (by omega) (by omega) (by omega) (by omega) (by rw [List.length_append]; simp only [List.length_cons, List.length_nil]; omega) (by omega) (fun y' hy' => by
        rcases List.mem_append.1 hy' with h | h
        · exact hd y' h
        · rw [List.mem_singleton] at h; subst h; exact hy)
      exact ⟨o', u, hs _ h, r⟩
    have key : ∃ o' u, Ev (fun k => if b = true then spec_DrawDiskDo.j1 k o x8 i c (a1 + 1) z l p 2 0 [] else spec_DrawDiskDo.j1 k o x8 i c (a1 + 1) z l p 1 v f) (l, p, o', u) ∧ okO o' := by
      cases b with
      | true => obtain ⟨o', u, h, r⟩ := go 2 0 [] (by simp); exact ⟨o', u, Ev.congr (fun k => if_pos rfl) h, r⟩
      | false => obtain ⟨o', u, h, r⟩ := go 1 v f (by omega); exact ⟨o', u, Ev.congr (fun k => if_neg (by simp)) h, r⟩
    obtain ⟨o', u, h, r⟩ := key
    refine ⟨o', u, Ev.step (f := fun k => (spec_l1Fill.f k c (a + 1) z).bind fun t => (spec_l1Chance.f c t.2.1 t.2.2 3).bind fun q => if q.1 = true then spec_DrawDiskDo.j1 k o x8 i c q.2.1 q.2.2 l p 2 0 [] else spec_DrawDiskDo.j1 k o x8 i c q.2.1 q.2.2 l p 1 v t.1) (fun k => ?_) (hf.bind (Ev.congr (fun k => by dsimp only; rw [hch, Option.bind_some]) h)), r⟩
    simp only [spec_DrawDiskDo.l0]
    rw [if_pos ci, hbk, Option.bind_some, hv, Option.bind_some]
/-- The draws give some disk, operations and limit. -/
theorem draw_ev (c : List Int) (hc : c.length ≤ 1048576) (hb : ∀ x ∈ c, 0 ≤ x ∧ x ≤ 255) : ∃ l p o a, Ev (fun k => spec_DrawDiskDo.f k c) (l, p, o, a) ∧ okD l p ∧ okO o := by
  obtain ⟨z, hs, z0, z1⟩ := source_ev c hc
  obtain ⟨l, p, a, hd, hD, a0, a1⟩ := disk_ev c z hc hb z0 z1
  have e6 : wrap64 (6 + z) = 6 + z := w64 (by omega) (by omega)
  obtain ⟨n, hn, n0, n1, _⟩ := next_ev c a z (6 + z) hc hb a0 (by omega) (by omega)
  have n2 := n1 (by omega)
  obtain ⟨o, v, h, r⟩ := dl0_ev c z n l p hc hb hD (by omega) n0 18 0 (a + 1) [] (by omega) (by omega) (by omega) (by omega) (by omega) (by simp) (by omega) (by simp)
  refine ⟨l, p, o, v, Ev.congr (fun k => by unfold spec_DrawDiskDo.f; rw [hs, Option.bind_some]) (hd.bind (Ev.congr (fun k => by dsimp only; rw [e6, hn, Option.bind_some]) h)), hD, r⟩
/-- A place drawn from the other bytes. -/
theorem at_ev (c : List Int) (i n : Int) (hc : c.length ≤ 1048576) (hb : ∀ x ∈ c, 0 ≤ x ∧ x ≤ 255) (h0 : 0 ≤ i) (h1 : i ≤ 1000) (hn : n ≤ 100000) : ∃ v, laws_lwAt.f c i n = some v ∧ 0 ≤ v ∧ (1 < n → v < n) ∧ (n ≤ 1 → v = 0) := by
  unfold laws_lwAt.f
  by_cases c1 : n ≤ 1
  · exact ⟨0, by rw [if_pos c1], by omega, fun h => by omega, fun _ => rfl⟩
  rw [if_neg c1]
  have modk : ∀ x : Int, 0 ≤ x → 0 ≤ Int.tmod x n ∧ (1 < n → Int.tmod x n < n) := fun x hx => by
    rw [Int.tmod_eq_emod_of_nonneg hx]
    exact ⟨Int.emod_nonneg _ (by omega), fun h => Int.emod_lt_of_pos _ (by omega)⟩
  by_cases c2 : (c.length : Int) = 0
  · have := modk (wrap64 (i * 7)) (by rw [w64 (by omega) (by omega)]; omega)
    exact ⟨_, by rw [if_pos c2, if_neg (by omega)], this.1, this.2, fun h => by omega⟩
  rw [if_neg c2]
  have hk : 0 < (c.length : Int) := by omega
  have m1 : 0 ≤ Int.tmod i (c.length : Int) ∧ Int.tmod i (c.length : Int) < (c.length : Int) := by
    rw [Int.tmod_eq_emod_of_nonneg h0]
    exact ⟨Int.emod_nonneg _ (by omega), Int.emod_lt_of_pos _ hk⟩
  have w1 : wrap64 (i + 1) = i + 1 := w64 (by omega) (by omega)
  have m2 : 0 ≤ Int.tmod (i + 1) (c.length : Int) ∧ Int.tmod (i + 1) (c.length : Int) < (c.length : Int) := by
    rw [Int.tmod_eq_emod_of_nonneg (by omega)]
    exact ⟨Int.emod_nonneg _ (by omega), Int.emod_lt_of_pos _ hk⟩
  have r1 := hb _ (rd_mem m1.1 m1.2)
  have r2 := hb _ (rd_mem m2.1 m2.2)
  have d1 : 0 ≤ Int.tdiv i (c.length : Int) ∧ Int.tdiv i (c.length : Int) ≤ i := by
    rw [Int.tdiv_eq_ediv_of_nonneg h0]
    exact ⟨Int.ediv_nonneg h0 (by omega), Int.ediv_le_self _ h0⟩
  rw [w1]
  obtain ⟨y1, hy1⟩ : ∃ y, rd c (Int.tmod i (c.length : Int)) = y := ⟨_, rfl⟩
  obtain ⟨y2, hy2⟩ : ∃ y, rd c (Int.tmod (i + 1) (c.length : Int)) = y := ⟨_, rfl⟩
  obtain ⟨q, hq⟩ : ∃ y, Int.tdiv i (c.length : Int) = y := ⟨_, rfl⟩
  rw [hy1] at r1
  rw [hy2] at r2
  rw [hq] at d1
  rw [if_pos m1.1, if_pos m1.2, hy1, hq, hy2]
  have w4 : wrap64 y1 = y1 := w64 (by omega) (by omega)
  have w5 : wrap64 q = q := w64 (by omega) (by omega)
  have w6 : wrap64 (y1 + q) = y1 + q := w64 (by omega) (by omega)
  have w7 : wrap64 y2 = y2 := w64 (by omega) (by omega)
  rw [w4, w5, w6, w7]
  by_cases c3 : n > 200
  · have w8 : wrap64 ((y1 + q) * 37) = (y1 + q) * 37 := w64 (by omega) (by omega)
    have w9 : wrap64 ((y1 + q) * 37 + y2) = (y1 + q) * 37 + y2 := w64 (by omega) (by omega)
    rw [if_pos c3, if_pos m2.1, if_pos m2.2, if_neg (by omega), w8, w9]
    have := modk ((y1 + q) * 37 + y2) (by omega)
    exact ⟨_, rfl, this.1, this.2, fun h => by omega⟩
  · rw [if_neg c3, if_neg (by omega)]
    have := modk (y1 + q) (by omega)
    exact ⟨_, rfl, this.1, this.2, fun h => by omega⟩
theorem keep_ev (c : List Int) (hc : c.length ≤ 1048576) (hb : ∀ x ∈ c, 0 ≤ x ∧ x ≤ 255) : ∃ v, Ev (fun k => laws_lwKeep.f k c 1) v ∧ v.length ≤ 40 := by
  obtain ⟨e, he, _⟩ := at_ev c 1 4 hc hb (by omega) (by omega) (by omega)
  have key : ∀ (d i : Nat) (x : List Int), i + d = 40 → x.length = i → ∃ v, Ev (fun k => laws_lwKeep.l0 k c 1 x e (i : Int)) v ∧ v.length ≤ 40 := by
    intro d
    induction d with
    | zero => intro i x hi hx; exact ⟨x, Ev.step (f := fun _ => some x) (fun k => by simp only [laws_lwKeep.l0]; rw [if_neg (by omega)]) (Ev.now _), by omega⟩
    | succ d ih =>
      intro i x hi hx
      have hw : wrap64 ((i : Int) + 1) = ((i + 1 : Nat) : Int) := by rw [w64 (by omega) (by omega)]; rfl
      have hw1 : wrap64 (1 + (i : Int)) = 1 + (i : Int) := w64 (by omega) (by omega)
      obtain ⟨a2, ha2, _⟩ := at_ev c (1 + (i : Int)) 2 hc hb (by omega) (by omega) (by omega)
      obtain ⟨a5, ha5, _⟩ := at_ev c (1 + (i : Int)) 5 hc hb (by omega) (by omega) (by omega)
      have go : ∀ u : Int, ∃ v, Ev (fun k => laws_lwKeep.l0 k c 1 (x ++ [u]) e ((i + 1 : Nat) : Int)) v ∧ v.length ≤ 40 := fun u => ih (i + 1) (x ++ [u]) (by omega) (by simp [hx])
      have hi40 : (i : Int) < 40 := by omega
      have hx4 : x.length < 17592186044416 := by omega
      by_cases e0 : e = 0
      · obtain ⟨v, h, r⟩ := go 1
        refine ⟨v, Ev.step (fun k => ?_) h, r⟩
        simp only [laws_lwKeep.l0, hw1, hw]
        rw [if_pos hi40, ha2, Option.bind_some, if_pos e0, if_neg (by omega), if_pos hx4]
      by_cases e1 : e = 1
      · by_cases e5 : a5 > 0
        · obtain ⟨v, h, r⟩ := go 1
          refine ⟨v, Ev.step (fun k => ?_) h, r⟩
          simp only [laws_lwKeep.l0, hw1, hw]
          rw [if_pos hi40, ha2, Option.bind_some, if_neg e0, if_pos e1, ha5, Option.bind_some, if_pos e5, if_pos hx4]
        · obtain ⟨v, h, r⟩ := go a2
          refine ⟨v, Ev.step (fun k => ?_) h, r⟩
          simp only [laws_lwKeep.l0, hw1, hw]
          rw [if_pos hi40, ha2, Option.bind_some, if_neg e0, if_pos e1, ha5, Option.bind_some, if_neg e5, if_pos hx4]
      · obtain ⟨v, h, r⟩ := go a2
        refine ⟨v, Ev.step (fun k => ?_) h, r⟩
        simp only [laws_lwKeep.l0, hw1, hw]
        rw [if_pos hi40, ha2, Option.bind_some, if_neg e0, if_neg e1, if_pos hx4]
  obtain ⟨v, h, r⟩ := key 40 0 [] rfl rfl
  exact ⟨v, Ev.congr (fun k => by unfold laws_lwKeep.f; rw [he, Option.bind_some]; rfl) h, r⟩
end DR
namespace DX
open Go.Proofs.Ytdhjhadcadcceaa.PFnDisk.FD DK
theorem eqb (x : List Int) : laws_lwSameBytes.f x x = some true := by unfold laws_lwSameBytes.f; simp
theorem copy_ev (l : List Int) (p : List S62) (hl : l.length ≤ 1048576) (hp : p.length ≤ 1048576 ∧ ∀ y ∈ p, y.f1.length ≤ 1048576) : Ev (fun k => laws_lwCopyDisk.f k l p) (l, p) := by
  refine Ev.congr (f := fun k => laws_lwCopyDisk.l0 k 0 l p l []) (fun k => by unfold laws_lwCopyDisk.f; rw [Option.bind_some, if_pos (by simp only [List.length_nil]; omega), List.nil_append]) ?_
  have := down (P := fun i => Ev (fun k => laws_lwCopyDisk.l0 k (i : Int) l p l (p.take i)) (l, p)) p.length ?_ ?_
  · simpa using this
  · exact Ev.step (f := fun _ => some (l, p)) (fun k => by simp only [laws_lwCopyDisk.l0]; rw [if_neg (by omega), List.take_length]) (Ev.now _)
  · intro i hi h
    have hw : wrap64 ((i : Int) + 1) = ((i + 1 : Nat) : Int) := by rw [w64 (by omega) (by omega)]; rfl
    have hd := hp.2 _ (List.getElem_mem hi)
    rw [List.take_succ_eq_append_getElem hi] at h
    refine Ev.step (fun k => ?_) h
    simp only [laws_lwCopyDisk.l0]
    rw [if_pos (by omega), if_pos (by omega), rd62 p i hi, Option.bind_some, if_pos (by simp only [List.length_nil]; omega), if_pos (by rw [List.length_take]; omega), hw, List.nil_append]
theorem same_ev (l : List Int) (p : List S62) (hp : p.length ≤ 1048576) : Ev (fun k => laws_lwSameDisk.f k l p l p) true := by
  refine Ev.congr (f := fun k => laws_lwSameDisk.j0 k false l p l p) (fun k => by unfold laws_lwSameDisk.f; rw [if_pos rfl, eqb, Option.bind_some]; rfl) ?_
  refine Ev.step (f := fun k => laws_lwSameDisk.l0 k 0 l p l p) (fun k => by simp only [laws_lwSameDisk.j0]; rw [if_neg (by decide)]) ?_
  refine down (P := fun i => Ev (fun k => laws_lwSameDisk.l0 k (i : Int) l p l p) true) p.length ?_ ?_
  · exact Ev.step (f := fun _ => some true) (fun k => by simp only [laws_lwSameDisk.l0]; rw [if_neg (by omega)]) (Ev.now _)
  · intro i hi h
    have hw : wrap64 ((i : Int) + 1) = ((i + 1 : Nat) : Int) := by rw [w64 (by omega) (by omega)]; rfl
    refine Ev.step (fun k => ?_) h
    simp only [laws_lwSameDisk.l0]
    rw [if_pos (by omega), if_pos (by omega), if_pos (by omega), if_pos trivial, eqb, Option.bind_some, if_pos rfl, hw]
/-- The bytes behind so many writes. -/
def flushL (x : List Int) : List S62 → List Int
  | [] => x
  | w :: p => flushL (splice x (w.f0.toNat * 64) w.f1) p
def okP (n : Nat) (p : List S62) : Prop := ∀ w ∈ p, ∃ b : Nat, w.f0 = (b : Int) ∧ b * 64 + 64 ≤ n ∧ w.f1.length = 64
theorem valid_okP (l : List Int) (p : List S62) (h : validD l p = true) : okP l.length p := by
  obtain ⟨_, _, _, hf⟩ := valid_facts l p h
  intro w hw
  obtain ⟨i, hi, rfl⟩ := List.mem_iff_getElem.1 hw
  exact hf i hi
theorem flush_len (n : Nat) (p : List S62) : ∀ x : List Int, x.length = n → okP n p → (flushL x p).length = n := by
  induction p with
  | nil => intro x hx _; exact hx
  | cons w p ih =>
    intro x hx hp
    obtain ⟨b, h1, h2, h3⟩ := hp w (List.mem_cons_self ..)
    refine ih _ ?_ (fun y hy => hp y (List.mem_cons_of_mem _ hy))
    rw [h1, Int.toNat_natCast, length_splice _ _ _ (by omega)]; exact hx
def stp (l : List Int) (p : List S62) (c b : Int) (d : List Int) : Option (List Int × List S62) :=
  if c = 1 then (if p.length < 600 ∧ 0 ≤ b ∧ b < (l.length : Int) / 64 ∧ d.length = 64 then some (l, p ++ [⟨b, d⟩]) else none) else if c = 2 ∧ b = 0 ∧ d.length = 0 then some (flushL l p, []) else none
theorem fl_loop (l0 : List Int) (p : List S62) (hv : validD l0 p = true) : ∀ (d i : Nat), i + d = p.length → ∀ (x : List Int), x.length = l0.length →
    Ev (fun k => spec_l1Do.l0 k (i : Int) x p) (flushL x (p.drop i), [], true) ∧ Ev (fun k => impl_do.l0 k p (p.length : Int) (i : Int) x p) (flushL x (p.drop i), [], true) ∧ Ev (fun k => impl_DiskFlush.l0 k p (p.length : Int) (i : Int) x) (flushL x (p.drop i), []) := by
  obtain ⟨hl, hp, hm, hf⟩ := valid_facts l0 p hv
  intro d
  induction d with
  | zero =>
    intro i hi x hx
    rw [show p.drop i = [] from List.drop_of_length_le (by omega)]
    exact ⟨Ev.step (f := fun _ => some (x, [], true)) (fun k => by simp only [spec_l1Do.l0]; rw [if_neg (by omega)]) (Ev.now _), Ev.step (f := fun _ => some (x, [], true)) (fun k => by simp only [impl_do.l0]; rw [if_neg (by omega)]) (Ev.now _), Ev.step (f := fun _ => some (x, [])) (fun k => by simp only [impl_DiskFlush.l0]; rw [if_neg (by omega)]) (Ev.now _)⟩
  | succ d ih =>
    intro i hi x hx
    have hip : i < p.length := by omega
    obtain ⟨b, hb1, hb2, hb3⟩ := hf i hip
    have hw : wrap64 ((i : Int) + 1) = ((i + 1 : Nat) : Int) := by rw [w64 (by omega) (by omega)]; rfl
    have hs : (splice x (b * 64) p[i].f1).length = l0.length := by rw [length_splice _ _ _ (by omega)]; exact hx
    obtain ⟨h1, h2, h3⟩ := ih (i + 1) (by omega) _ hs
    have hdr : flushL x (p.drop i) = flushL (splice x (b * 64) p[i].f1) (p.drop (i + 1)) := by rw [List.drop_eq_getElem_cons hip, flushL, hb1, Int.toNat_natCast]
    rw [hdr]
    refine ⟨Ev.step (f := fun k => (spec_l1Put.f k x (b : Int) p[i].f1).bind fun t => spec_l1Do.l0 k ((i + 1 : Nat) : Int) t p) (fun k => ?_) ((put_ev x p[i].f1 b (by omega) hb3 (by omega)).bind h1), Ev.step (f := fun k => impl_do.l0 k p (p.length : Int) ((i + 1 : Nat) : Int) (splice x (b * 64) p[i].f1) p) (fun k => ?_) h2, Ev.step (f := fun k => impl_DiskFlush.l0 k p (p.length : Int) ((i + 1 : Nat) : Int) (splice x (b * 64) p[i].f1)) (fun k => ?_) h3⟩
    · simp only [spec_l1Do.l0]
      rw [if_pos (by omega), if_pos (by omega), rd62 p i hip, hb1, hw]
    · simp only [impl_do.l0]
      rw [if_pos (by omega), if_pos (by omega), if_pos (by omega), rd62 p i hip, hb1, lay_is k x p[i].f1 b (by omega) hb3 (by omega), Option.bind_some, hw]
    · simp only [impl_DiskFlush.l0]
      rw [if_pos (by omega), if_pos (by omega), if_pos (by omega), rd62 p i hip, hb1, lay_is k x p[i].f1 b (by omega) hb3 (by omega), Option.bind_some, hw]
theorem nb_is (l : List Int) (p : List S62) (h : l.length ≤ 1048576) : spec_l1Blocks.f l p = some ((l.length : Int) / 64) ∧ impl_nb.f l p = some ((l.length : Int) / 64) := by
  constructor
  · unfold spec_l1Blocks.f; rw [w64 (by omega) (by omega)]
  · unfold impl_nb.f; rw [w64 (by omega) (by omega)]
theorem valid_push (l : List Int) (p : List S62) (b : Int) (d : List Int) (hv : validD l p = true) (h1 : p.length < 600) (h2 : 0 ≤ b) (h3 : b < (l.length : Int) / 64) (h4 : d.length = 64) : validD l (p ++ [⟨b, d⟩]) = true := by
  unfold validD at hv ⊢
  rw [Bool.and_eq_true] at hv
  have hd := of_decide_eq_true hv.1
  rw [List.all_append, hv.2, decide_eq_true (by rw [List.length_append]; simp only [List.length_cons, List.length_nil]; omega)]
  simp only [List.all_cons, List.all_nil, okW, Bool.true_and, Bool.and_true]
  exact decide_eq_true ⟨h2, h3, h4⟩
theorem valid_flushed (l r : List Int) (p : List S62) (hv : validD l p = true) (h : r.length = l.length) : validD r [] = true := by
  unfold validD at hv ⊢
  rw [Bool.and_eq_true] at hv
  have hd := of_decide_eq_true hv.1
  rw [decide_eq_true (by rw [h]; simp only [List.length_nil]; omega)]; rfl
/-- One operation: what it makes, or that it is refused. -/
theorem one_op (l : List Int) (p : List S62) (c b : Int) (d : List Int) (hv : validD l p = true) (hd : d.length ≤ 1048576) :
    (∃ q : List Int × List S62, stp l p c b d = some q ∧ Ev (fun k => spec_l1Do.f k l p c b d) (q.1, q.2, true) ∧ Ev (fun k => impl_do.f k l p c b d) (q.1, q.2, true) ∧ validD q.1 q.2 = true ∧ q.1.length = l.length) ∨
    (stp l p c b d = none ∧ Ev (fun k => spec_l1Do.f k l p c b d) (l, p, false) ∧ Ev (fun k => impl_do.f k l p c b d) (l, p, false)) := by
  obtain ⟨hl, hp, hm, hf⟩ := valid_facts l p hv
  obtain ⟨n1, n2⟩ := nb_is l p (by omega)
  obtain ⟨c1, c2⟩ := cp_is d hd
  have no : ∀ x : Bool, x = false → c ≠ 1 → Ev (fun k => spec_l1Do.j0 k x l p c b d) (l, p, false) := fun x hx hc => Ev.step (f := fun _ => some (l, p, false)) (fun k => by simp only [spec_l1Do.j0]; rw [hx, if_neg (by decide), if_neg hc]) (Ev.now _)
  by_cases k1 : c = 1
  · have s0 : ∀ k, spec_l1Do.f k l p c b d = spec_l1Do.j0 k false l p c b d := fun k => by unfold spec_l1Do.f; rw [if_neg (by omega)]
    have bad : ¬ (p.length < 600 ∧ 0 ≤ b ∧ b < (l.length : Int) / 64 ∧ d.length = 64) → stp l p c b d = none := fun h => by unfold stp; rw [if_pos k1, if_neg h]
    by_cases k2 : p.length = 600
    · exact Or.inr ⟨bad (by omega), Ev.congr s0 (Ev.step (f := fun _ => some (l, p, false)) (fun k => by simp only [spec_l1Do.j0]; rw [if_neg (by decide), if_pos k1, if_pos (by omega)]) (Ev.now _)), Ev.congr (fun k => by unfold impl_do.f; rw [if_pos k1, if_pos (by omega)]) (Ev.now _)⟩
    by_cases k3 : b < 0
    · exact Or.inr ⟨bad (by omega), Ev.congr s0 (Ev.step (f := fun _ => some (l, p, false)) (fun k => by simp only [spec_l1Do.j0]; rw [if_neg (by decide), if_pos k1, if_neg (by omega), if_pos k3]) (Ev.now _)), Ev.congr (fun k => by unfold impl_do.f; rw [if_pos k1, if_neg (by omega), if_pos k3]) (Ev.now _)⟩
    by_cases k4 : b ≥ (l.length : Int) / 64
    · exact Or.inr ⟨bad (by omega), Ev.congr s0 (Ev.step (f := fun _ => some (l, p, false)) (fun k => by simp only [spec_l1Do.j0]; rw [if_neg (by decide), if_pos k1, if_neg (by omega), if_neg k3, n1, Option.bind_some, if_pos k4]) (Ev.now _)), Ev.congr (fun k => by unfold impl_do.f; rw [if_pos k1, if_neg (by omega), if_neg k3, n2, Option.bind_some, if_pos k4]) (Ev.now _)⟩
    by_cases k5 : (d.length : Int) = 64
    · refine Or.inl ⟨(l, p ++ [⟨b, d⟩]), by unfold stp; rw [if_pos k1, if_pos (by omega)], Ev.congr s0 (Ev.step (f := fun _ => some (l, p ++ [⟨b, d⟩], true)) (fun k => by simp only [spec_l1Do.j0]; rw [if_neg (by decide), if_pos k1, if_neg (by omega), if_neg k3, n1, Option.bind_some, if_neg k4, if_pos k5, c1, Option.bind_some, if_pos (by omega)]) (Ev.now _)), Ev.congr (fun k => by unfold impl_do.f; rw [if_pos k1, if_neg (by omega), if_neg k3, n2, Option.bind_some, if_neg k4, if_pos k5, c2, Option.bind_some, if_pos (by omega)]) (Ev.now _), valid_push l p b d hv (by omega) (by omega) (by omega) (by omega), rfl⟩
    · exact Or.inr ⟨bad (by omega), Ev.congr s0 (Ev.step (f := fun _ => some (l, p, false)) (fun k => by simp only [spec_l1Do.j0]; rw [if_neg (by decide), if_pos k1, if_neg (by omega), if_neg k3, n1, Option.bind_some, if_neg k4, if_neg k5]) (Ev.now _)), Ev.congr (fun k => by unfold impl_do.f; rw [if_pos k1, if_neg (by omega), if_neg k3, n2, Option.bind_some, if_neg k4, if_neg k5]) (Ev.now _)⟩
  have bad : ¬ (c = 2 ∧ b = 0 ∧ d.length = 0) → stp l p c b d = none := fun h => by unfold stp; rw [if_neg k1, if_neg h]
  by_cases k2 : c = 2
  rotate_left
  · exact Or.inr ⟨bad (by omega), Ev.congr (fun k => by unfold spec_l1Do.f; rw [if_neg k2]) (no false rfl k1), Ev.congr (fun k => by unfold impl_do.f; rw [if_neg k1, if_neg k2]) (Ev.now _)⟩
  by_cases k3 : b = 0
  rotate_left
  · exact Or.inr ⟨bad (by omega), Ev.congr (fun k => by unfold spec_l1Do.f; rw [if_pos k2, if_neg k3]) (no false rfl k1), Ev.congr (fun k => by unfold impl_do.f; rw [if_neg k1, if_pos k2, if_neg k3]) (Ev.step (f := fun _ => some (l, p, false)) (fun k => by simp only [impl_do.j0]; rw [if_pos trivial]) (Ev.now _))⟩
  by_cases k4 : (d.length : Int) = 0
  rotate_left
  · have e1 : ((d.length : Int) == 0) = false := beq_eq_false_iff_ne.mpr k4
    have e2 : ((d.length : Int) != 0) = true := bne_iff_ne.mpr k4
    exact Or.inr ⟨bad (by omega), Ev.congr (fun k => by unfold spec_l1Do.f; rw [if_pos k2, if_pos k3]) (no _ e1 k1), Ev.congr (fun k => by unfold impl_do.f; rw [if_neg k1, if_pos k2, if_pos k3, e2]) (Ev.step (f := fun _ => some (l, p, false)) (fun k => by simp only [impl_do.j0]; rw [if_pos trivial]) (Ev.now _))⟩
  have e1 : ((d.length : Int) == 0) = true := beq_iff_eq.mpr k4
  have e2 : ((d.length : Int) != 0) = false := bne_eq_false_iff_eq.mpr k4
  have hlen := flush_len l.length p l rfl (valid_okP l p hv)
  obtain ⟨h1, h2, _⟩ := fl_loop l p hv p.length 0 (by omega) l rfl
  rw [List.drop_zero] at h1 h2
  refine Or.inl ⟨(flushL l p, []), by unfold stp; rw [if_neg k1, if_pos (by omega)], Ev.congr (fun k => by unfold spec_l1Do.f; rw [if_pos k2, if_pos k3, e1]) (Ev.step (fun k => by simp only [spec_l1Do.j0]; rw [if_pos trivial]; rfl) h1), Ev.congr (fun k => by unfold impl_do.f; rw [if_neg k1, if_pos k2, if_pos k3, e2]) (Ev.step (fun k => by simp only [impl_do.j0]; rw [if_neg (by decide)]; rfl) h2), valid_flushed l _ p hv hlen, hlen⟩
/-- The operations, one behind the other. -/
def runO : List S93 → List Int → List S62 → Option (List Int × List S62)
  | [], l, p => some (l, p)
  | e :: o, l, p => (stp l p e.f0 e.f1 e.f2).bind fun q => runO o q.1 q.2
theorem runO_append (a b : List S93) : ∀ (l : List Int) (p : List S62), runO (a ++ b) l p = (runO a l p).bind fun q => runO b q.1 q.2 := by
  induction a with
  | nil => intro l p; rfl
  | cons e a ih =>
    intro l p
    rw [List.cons_append, runO, runO]
    cases stp l p e.f0 e.f1 e.f2 with
    | none => rfl
    | some q => exact ih q.1 q.2
theorem runO_valid (o : List S93) (hg : ∀ y ∈ o, y.f2.length ≤ 1048576) : ∀ (l : List Int) (p : List S62), validD l p = true → ∀ q, runO o l p = some q → validD q.1 q.2 = true ∧ q.1.length = l.length := by
  induction o with
  | nil => intro l p hv q hq; obtain rfl := Option.some.inj hq; exact ⟨hv, rfl⟩
  | cons e o ih =>
    intro l p hv q hq
    rw [runO] at hq
    rcases one_op l p e.f0 e.f1 e.f2 hv (hg e (List.mem_cons_self ..)) with ⟨u, h, _, _, hu, hl⟩ | ⟨h, _⟩
    · rw [h, Option.bind_some] at hq
      obtain ⟨h1, h2⟩ := ih (fun y hy => hg y (List.mem_cons_of_mem _ hy)) u.1 u.2 hu q hq
      exact ⟨h1, h2.trans hl⟩
    · rw [h] at hq; cases hq
def fin (r : Option (List Int × List S62)) : List Int × List S62 := r.getD ([], [])
def lim (o : List S93) (m : Int) : Nat := if m < 0 then o.length else min m.toNat o.length
theorem ops_loop (o : List S93) (m : Int) (ho : o.length ≤ 4000) (hg : ∀ y ∈ o, y.f2.length ≤ 1048576) : ∀ (d i : Nat), i + d = o.length → ∀ (l : List Int) (p : List S62), validD l p = true →
    Ev (fun k => spec_DiskDo.l0 k o m (i : Int) l p) (fin (runO ((o.take (lim o m)).drop i) l p)) ∧ Ev (fun k => impl_DiskDo.l0 k m o (o.length : Int) (i : Int) l p) (fin (runO ((o.take (lim o m)).drop i) l p)) := by
  have hL : lim o m ≤ o.length := by unfold lim; split <;> omega
  intro d
  induction d with
  | zero =>
    intro i hi l p hv
    rw [show (o.take (lim o m)).drop i = [] from List.drop_of_length_le (by rw [List.length_take]; omega)]
    refine ⟨?_, Ev.step (f := fun _ => some (l, p)) (fun k => by simp only [impl_DiskDo.l0]; rw [if_neg (by omega)]) (Ev.now _)⟩
    exact Ev.step (f := fun k => spec_DiskDo.j2 k o m (i : Int) false l p) (fun k => by simp only [spec_DiskDo.l0]; rw [if_neg (by omega)]) (Ev.step (f := fun _ => some (l, p)) (fun k => by simp only [spec_DiskDo.j2]; rw [if_neg (by decide)]) (Ev.now _))
  | succ d ih =>
    intro i hi l p hv
    have hio : i < o.length := by omega
    have hw : wrap64 ((i : Int) + 1) = ((i + 1 : Nat) : Int) := by rw [w64 (by omega) (by omega)]; rfl
    by_cases c : 0 ≤ m ∧ m ≤ (i : Int)
    · have hLi : lim o m ≤ i := by unfold lim; rw [if_neg (by omega)]; omega
      rw [show (o.take (lim o m)).drop i = [] from List.drop_of_length_le (by rw [List.length_take]; omega)]
      refine ⟨?_, ?_⟩
      · exact Ev.step (f := fun k => spec_DiskDo.j2 k o m (i : Int) false l p) (fun k => by simp only [spec_DiskDo.l0]; rw [if_pos (by omega), if_neg (by omega), decide_eq_false (by omega)]) (Ev.step (f := fun _ => some (l, p)) (fun k => by simp only [spec_DiskDo.j2]; rw [if_neg (by decide)]) (Ev.now _))
      · exact Ev.step (f := fun k => impl_DiskDo.j2 k m o (o.length : Int) (i : Int) true l p o[i].f0 o[i].f1 o[i].f2) (fun k => by simp only [impl_DiskDo.l0]; rw [if_pos (by omega), if_pos (by omega), if_pos (by omega), if_pos (by omega), decide_eq_true (by omega), rd93 o i hio]) (Ev.step (f := fun _ => some (l, p)) (fun k => by simp only [impl_DiskDo.j2]; rw [if_pos trivial]) (Ev.now _))
    have hLi : i < lim o m := by unfold lim; split <;> omega
    have hcons : (o.take (lim o m)).drop i = o[i] :: (o.take (lim o m)).drop (i + 1) := by
      rw [List.drop_eq_getElem_cons (by rw [List.length_take]; omega), List.getElem_take]
    have key : ∃ q : List Int × List S62 × Bool, Ev (fun k => spec_l1Do.f k l p o[i].f0 o[i].f1 o[i].f2) q ∧ Ev (fun k => impl_do.f k l p o[i].f0 o[i].f1 o[i].f2) q ∧
        Ev (fun k => if q.2.2 = true then spec_DiskDo.l0 k o m ((i + 1 : Nat) : Int) q.1 q.2.1 else some (([] : List Int), ([] : List S62))) (fin (runO ((o.take (lim o m)).drop i) l p)) ∧ Ev (fun k => if q.2.2 = true then impl_DiskDo.l0 k m o (o.length : Int) ((i + 1 : Nat) : Int) q.1 q.2.1 else some (([] : List Int), ([] : List S62))) (fin (runO ((o.take (lim o m)).drop i) l p)) := by
      rw [hcons, runO]
      rcases one_op l p o[i].f0 o[i].f1 o[i].f2 hv (hg _ (List.getElem_mem hio)) with ⟨u, h, h1, h2, hu, _⟩ | ⟨h, h1, h2⟩
      · obtain ⟨i1, i2⟩ := ih (i + 1) (by omega) u.1 u.2 hu
        rw [h, Option.bind_some]
        exact ⟨(u.1, u.2, true), h1, h2, Ev.congr (fun k => if_pos rfl) i1, Ev.congr (fun k => if_pos rfl) i2⟩
      · rw [h]
        exact ⟨(l, p, false), h1, h2, Ev.congr (fun k => if_neg (by simp)) (Ev.now _), Ev.congr (fun k => if_neg (by simp)) (Ev.now _)⟩
    obtain ⟨q, q1, q2, h1, h2⟩ := key
    refine ⟨?_, ?_⟩
    · have st : Ev (fun k => spec_DiskDo.j2 k o m (i : Int) true l p) (fin (runO ((o.take (lim o m)).drop i) l p)) := Ev.step (fun k => by simp only [spec_DiskDo.j2]; rw [if_pos trivial, if_pos (by omega), if_pos (by omega), rd93 o i hio, hw]) (q1.bind h1)
      by_cases e : m < 0
      · exact Ev.step (fun k => by simp only [spec_DiskDo.l0]; rw [if_pos (by omega), if_pos e]) st
      · exact Ev.step (fun k => by simp only [spec_DiskDo.l0]; rw [if_pos (by omega), if_neg e, decide_eq_true (by omega)]) st
    · have st : Ev (fun k => impl_DiskDo.j2 k m o (o.length : Int) (i : Int) false l p o[i].f0 o[i].f1 o[i].f2) (fin (runO ((o.take (lim o m)).drop i) l p)) := Ev.step (fun k => by simp only [impl_DiskDo.j2]; rw [if_neg (by decide), hw]) (q2.bind h2)
      by_cases e : m ≥ 0
      · exact Ev.step (fun k => by simp only [impl_DiskDo.l0]; rw [if_pos (by omega), if_pos (by omega), if_pos (by omega), if_pos e, decide_eq_false (by omega), rd93 o i hio]) st
      · exact Ev.step (fun k => by simp only [impl_DiskDo.l0]; rw [if_pos (by omega), if_pos (by omega), if_pos (by omega), if_neg e, rd93 o i hio]) st
theorem valid_fit (l : List Int) (p : List S62) (hv : validD l p = true) : l.length ≤ 1048576 ∧ p.length ≤ 1048576 ∧ ∀ y ∈ p, y.f1.length ≤ 1048576 := by
  obtain ⟨hl, hp, hm, hf⟩ := valid_facts l p hv
  refine ⟨by omega, by omega, fun y hy => ?_⟩
  obtain ⟨i, hi, rfl⟩ := List.mem_iff_getElem.1 hy
  obtain ⟨b, _, _, h⟩ := hf i hi
  omega
theorem do_ok (l : List Int) (p : List S62) (o : List S93) (m : Int) (cv : validD l p = true) (ho : o.length ≤ 4000) (hg : ∀ y ∈ o, y.f2.length ≤ 1048576) :
    Ev (fun k => spec_DiskDo.f k l p o m) (fin (runO (o.take (lim o m)) l p)) ∧ Ev (fun k => impl_DiskDo.f k l p o m) (fin (runO (o.take (lim o m)) l p)) := by
  obtain ⟨hl, hp⟩ := valid_fit l p cv
  have sv := spec_ev l p hl hp.1
  have iv := impl_ev l p hl hp.1
  obtain ⟨h1, h2⟩ := ops_loop o m ho hg o.length 0 (by omega) l p cv
  rw [List.drop_zero] at h1 h2
  have c : ¬ (o.length : Int) > 4000 := by omega
  refine ⟨Ev.congr (fun k => by unfold spec_DiskDo.f; rfl) (sv.bind (Ev.congr (fun k => by rw [if_pos cv, decide_eq_false c]) ?_)), Ev.congr (fun k => by unfold impl_DiskDo.f; rfl) (iv.bind (Ev.congr (fun k => by rw [if_pos cv, decide_eq_false c]) ?_))⟩
  · exact Ev.step (fun k => by simp only [spec_DiskDo.j0]; rw [if_neg (by decide)]) ((copy_s l p hl hp).bind h1)
  · exact Ev.step (fun k => by simp only [impl_DiskDo.j0]; rw [if_neg (by decide)]) ((copy_i l p hl hp).bind h2)
theorem do_no (l : List Int) (p : List S62) (o : List S93) (m : Int) (hl : l.length ≤ 1048576) (hp : p.length ≤ 1048576) (c : ¬ (validD l p = true ∧ o.length ≤ 4000)) :
    Ev (fun k => spec_DiskDo.f k l p o m) ([], []) ∧ Ev (fun k => impl_DiskDo.f k l p o m) ([], []) := by
  have sv := spec_ev l p hl hp
  have iv := impl_ev l p hl hp
  have no1 : Ev (fun k => spec_DiskDo.j0 k o m true l p) ([], []) := Ev.step (f := fun _ => some ([], [])) (fun k => by simp only [spec_DiskDo.j0]; rw [if_pos trivial]) (Ev.now _)
  have no2 : Ev (fun k => impl_DiskDo.j0 k o m true l p) ([], []) := Ev.step (f := fun _ => some ([], [])) (fun k => by simp only [impl_DiskDo.j0]; rw [if_pos trivial]) (Ev.now _)
  by_cases cv : validD l p = true
  rotate_left
  · exact ⟨Ev.congr (fun k => by unfold spec_DiskDo.f; rfl) (sv.bind (Ev.congr (fun k => if_neg cv) no1)), Ev.congr (fun k => by unfold impl_DiskDo.f; rfl) (iv.bind (Ev.congr (fun k => if_neg cv) no2))⟩
  have c : (o.length : Int) > 4000 := by
    rcases Nat.lt_or_ge 4000 o.length with h | h
    · omega
    · exact absurd ⟨cv, h⟩ c
  exact ⟨Ev.congr (fun k => by unfold spec_DiskDo.f; rfl) (sv.bind (Ev.congr (fun k => by rw [if_pos cv, decide_eq_true c]) no1)), Ev.congr (fun k => by unfold impl_DiskDo.f; rfl) (iv.bind (Ev.congr (fun k => by rw [if_pos cv, decide_eq_true c]) no2))⟩
/-- Blocks of what was laid. -/
theorem blk_get (x : List Int) (b j : Nat) : (blk x b)[j]? = if j < 64 then x[b * 64 + j]? else none := by
  unfold blk
  rw [List.getElem?_drop, List.getElem?_take]
  by_cases h : j < 64
  · rw [if_pos h, if_pos (by omega)]
  · rw [if_neg h, if_neg (by omega)]
theorem splice_get (x d : List Int) (o i : Nat) (ho : o + d.length ≤ x.length) : (splice x o d)[i]? = if i < o then x[i]? else if i < o + d.length then d[i - o]? else x[i]? := by
  unfold splice
  have h1 : (x.take o).length = o := by rw [List.length_take]; omega
  by_cases c : i < o
  · rw [if_pos c, List.getElem?_append_left (by omega), List.getElem?_take, if_pos c]
  · rw [if_neg c, List.getElem?_append_right (by omega), h1]
    by_cases c2 : i < o + d.length
    · rw [if_pos c2, List.getElem?_append_left (by omega)]
    · rw [if_neg c2, List.getElem?_append_right (by omega), List.getElem?_drop]
      congr 1; omega
theorem blk_splice (x d : List Int) (b0 b : Nat) (hd : d.length = 64) (h0 : b0 * 64 + 64 ≤ x.length) : blk (splice x (b0 * 64) d) b = if b = b0 then d else blk x b := by
  apply List.ext_getElem?
  intro j
  rw [blk_get]
  by_cases e : b = b0
  · subst e
    rw [if_pos rfl]
    by_cases h : j < 64
    · rw [if_pos h, splice_get _ _ _ _ (by omega), if_neg (by omega), if_pos (by omega), show b * 64 + j - b * 64 = j by omega]
    · rw [if_neg h, List.getElem?_eq_none (by omega)]
  · rw [if_neg e, blk_get]
    by_cases h : j < 64
    · rw [if_pos h, if_pos h, splice_get _ _ _ _ (by omega)]
      by_cases c : b * 64 + j < b0 * 64
      · rw [if_pos c]
      · rw [if_neg c, if_neg (by omega)]
    · rw [if_neg h, if_neg h]
theorem sh_step (wd : List Int) (wp : List S62) (v x : List Int) (i b0 : Nat) (hi : i < wp.length) (hb : wp[i].f0 = (b0 : Int)) (hd : wp[i].f1.length = 64) (h0 : b0 * 64 + 64 ≤ x.length) (hv : rd v (i : Int) ≠ 0)
    (hx : ∀ b : Nat, b < wd.length / 64 → blk x b = sh wd wp v b i) : ∀ b : Nat, b < wd.length / 64 → blk (splice x (b0 * 64) wp[i].f1) b = sh wd wp v b (i + 1) := by
  intro b hbn
  rw [blk_splice x _ b0 b hd h0, sh, rd62 wp i hi, hb, hx b hbn]
  by_cases e : b = b0
  · rw [if_pos e, if_pos ⟨by rw [e], hv⟩]
  · rw [if_neg e, if_neg (fun h => e (by have := h.1; omega))]
theorem crash_skip (v : List Int) (p : List S62) (hp : p.length ≤ 600) (x : List Int) : ∀ (d i : Nat), i + d = p.length → v.length ≤ i → Ev (fun k => impl_DiskCrash.l0 k v p (p.length : Int) (i : Int) x) (x, []) := by
  intro d
  induction d with
  | zero => intro i hi _; exact Ev.step (f := fun _ => some (x, [])) (fun k => by simp only [impl_DiskCrash.l0]; rw [if_neg (by omega)]) (Ev.now _)
  | succ d ih =>
    intro i hi hv
    have hw : wrap64 ((i : Int) + 1) = ((i + 1 : Nat) : Int) := by rw [w64 (by omega) (by omega)]; rfl
    exact Ev.step (fun k => by simp only [impl_DiskCrash.l0]; rw [if_pos (by omega), if_pos (by omega), if_pos (by omega), if_neg (by omega), hw]) (ih (i + 1) (by omega) (by omega))
theorem crash_s2 (k : Nat) (v x : List Int) (p : List S62) (i : Int) (h0 : 0 ≤ i) (h1 : i < (v.length : Int)) (h2 : i < (p.length : Int)) : impl_DiskCrash.l0 (k + 1) v p (p.length : Int) i x = if (rd v i) = 0 then impl_DiskCrash.l0 k v p (p.length : Int) (wrap64 (i + 1)) x else (impl_lay.f k x (wrap64 (((rd_T62 p i).f0) * 64)) ((rd_T62 p i).f1)).bind fun t => impl_DiskCrash.l0 k v p (p.length : Int) (wrap64 (i + 1)) t := by
  rw [impl_DiskCrash.l0, if_pos h2, if_pos h0, if_pos h2, if_pos h1]
theorem crash_loop (l0 : List Int) (p : List S62) (v : List Int) (hv : validD l0 p = true) : ∀ (d i : Nat), i + d = p.length → ∀ (x : List Int), x.length = l0.length → (∀ b : Nat, b < l0.length / 64 → blk x b = sh l0 p v b (min i v.length)) →
    ∃ r : List Int, r.length = l0.length ∧ (∀ b : Nat, b < l0.length / 64 → blk r b = sh l0 p v b (min p.length v.length)) ∧ Ev (fun k => impl_DiskCrash.l0 k v p (p.length : Int) (i : Int) x) (r, []) := by
  obtain ⟨hl, hp, _, hf⟩ := valid_facts l0 p hv
  clear hv
  intro d
  induction d with
  | zero =>
    intro i hi x hx hb
    obtain rfl : i = p.length := by omega
    exact ⟨x, hx, hb, Ev.step (f := fun _ => some (x, [])) (fun k => by simp only [impl_DiskCrash.l0]; rw [if_neg (by omega)]) (Ev.now _)⟩
  | succ d ih =>
    intro i hi x hx hb
    have hip : i < p.length := by omega
    obtain ⟨b0, hb1, hb2, hb3⟩ := hf i hip
    have hw : wrap64 ((i : Int) + 1) = ((i + 1 : Nat) : Int) := by rw [w64 (by omega) (by omega)]; rfl
    by_cases c : i < v.length
    rotate_left
    · refine ⟨x, hx, fun b hbn => ?_, crash_skip v p hp x (d + 1) i hi (Nat.le_of_not_lt c)⟩
      rw [hb b hbn, Nat.min_eq_right (by omega), Nat.min_eq_right (by omega)]
    have m1 : min i v.length = i := Nat.min_eq_left (by omega)
    have m2 : min (i + 1) v.length = i + 1 := Nat.min_eq_left (by omega)
    rw [m1] at hb
    have s2 : ∀ k, impl_DiskCrash.l0 (k + 1) v p (p.length : Int) (i : Int) x = if rd v (i : Int) = 0 then impl_DiskCrash.l0 k v p (p.length : Int) ((i + 1 : Nat) : Int) x else (impl_lay.f k x (wrap64 ((b0 : Int) * 64)) p[i].f1).bind fun t => impl_DiskCrash.l0 k v p (p.length : Int) ((i + 1 : Nat) : Int) t := fun k => by
      rw [crash_s2 k v x p (i : Int) (Int.natCast_nonneg _) (Int.ofNat_lt.mpr c) (Int.ofNat_lt.mpr hip), rd62 p i hip, hb1, hw]
    by_cases c2 : rd v (i : Int) = 0
    · obtain ⟨r, hr, hrb, h2⟩ := ih (i + 1) (by omega) x hx (fun b hbn => by rw [m2, sh, if_neg (fun h => h.2 c2)]; exact hb b hbn)
      exact ⟨r, hr, hrb, Ev.step (fun k => by rw [s2 k, if_pos c2]) h2⟩
    · have hs : (splice x (b0 * 64) p[i].f1).length = l0.length := by rw [length_splice _ _ _ (by omega)]; exact hx
      obtain ⟨r, hr, hrb, h2⟩ := ih (i + 1) (by omega) _ hs (fun b hbn => by rw [m2]; exact sh_step l0 p v x i b0 hip hb1 hb3 (by omega) c2 hb b hbn)
      exact ⟨r, hr, hrb, Ev.step (fun k => by rw [s2 k, if_neg c2, lay_is k x p[i].f1 b0 (by omega) hb3 (by omega), Option.bind_some]) h2⟩
theorem crash_ev (l : List Int) (p : List S62) (v : List Int) (cv : validD l p = true) (hv : v.length ≤ 600) : ∃ r : List Int, r.length = l.length ∧ (∀ b : Nat, b < l.length / 64 → blk r b = sh l p v b (min p.length v.length)) ∧ Ev (fun k => impl_DiskCrash.f k l p v) (r, []) := by
  obtain ⟨hl, hp⟩ := valid_fit l p cv
  have iv := impl_ev l p hl hp.1
  have e : decide ((v.length : Int) > 600) = false := decide_eq_false (by omega)
  obtain ⟨r, hr, hb, h2⟩ := crash_loop l p v cv p.length 0 (by omega) l rfl (fun b _ => by rw [Nat.zero_min]; rfl)
  refine ⟨r, hr, hb, Ev.congr (fun k => by unfold impl_DiskCrash.f; rfl) (iv.bind (Ev.congr (fun k => by rw [if_pos cv, e]) ?_))⟩
  exact Ev.step (fun k => by simp only [impl_DiskCrash.j0]; rw [if_neg (by simp), (cp_is l hl).2, Option.bind_some]; rfl) h2
/-- All writes kept. -/
def ones (p : List S62) : List Int := List.replicate p.length 1
theorem ones_rd (p : List S62) (i : Nat) (h : i < p.length) : rd (ones p) (i : Int) ≠ 0 := by
  rw [rd_nat _ i (by unfold ones; rw [List.length_replicate]; exact h)]
  unfold ones
  rw [List.getElem_replicate]; decide
theorem flush_blk (l0 : List Int) (p : List S62) (hp : okP l0.length p) : ∀ (d i : Nat), i + d = p.length → ∀ (x : List Int), x.length = l0.length → (∀ b : Nat, b < l0.length / 64 → blk x b = sh l0 p (ones p) b i) → ∀ b : Nat, b < l0.length / 64 → blk (flushL x (p.drop i)) b = sh l0 p (ones p) b p.length := by
  intro d
  induction d with
  | zero => intro i hi x hx hb; rw [show p.drop i = [] from List.drop_of_length_le (by omega)]; obtain rfl : i = p.length := by omega
            exact hb
  | succ d ih =>
    intro i hi x hx hb
    have hip : i < p.length := by omega
    obtain ⟨b0, hb1, hb2, hb3⟩ := hp p[i] (List.getElem_mem hip)
    rw [List.drop_eq_getElem_cons hip, flushL, hb1, Int.toNat_natCast]
    exact ih (i + 1) (by omega) _ (by rw [length_splice _ _ _ (by omega)]; exact hx) (sh_step l0 p (ones p) x i b0 hip hb1 hb3 (by omega) (ones_rd p i hip) hb)
theorem flush_ev (l : List Int) (p : List S62) (cv : validD l p = true) : Ev (fun k => impl_DiskFlush.f k l p) (flushL l p, []) := by
  obtain ⟨hl, hp⟩ := valid_fit l p cv
  have iv := impl_ev l p hl hp.1
  obtain ⟨_, _, h3⟩ := fl_loop l p cv p.length 0 (by omega) l rfl
  rw [List.drop_zero] at h3
  exact Ev.congr (fun k => by unfold impl_DiskFlush.f; rfl) (iv.bind (Ev.congr (fun k => by rw [if_pos cv, (cp_is l hl).2, Option.bind_some]; rfl) h3))
theorem flush_no : Ev (fun k => impl_DiskFlush.f k [] []) ([], []) := by
  have iv := impl_ev [] [] (by simp) (by simp)
  exact Ev.congr (fun k => by unfold impl_DiskFlush.f; rfl) (iv.bind (Ev.congr (fun k => if_neg (show ¬ (validD [] [] = true) by unfold validD; simp)) (Ev.now _)))
theorem image_ev (l : List Int) (p : List S62) (cv : validD l p = true) : Ev (fun k => impl_DiskImage.f k l p) (flushL l p) :=
  Ev.congr (fun k => by unfold impl_DiskImage.f; rfl) ((flush_ev l p cv).bind (Ev.now _))
theorem see (l : List Int) (p : List S62) (b : Nat) (hl : l.length ≤ 131072) (hp : p.length ≤ 1048576) (hf : ∀ y ∈ p, y.f1.length ≤ 1048576) (h1 : b < l.length / 64) : ∀ n : Nat, n ≤ p.length → Ev (fun k => impl_rd.l0 k (b : Int) ((n : Int) - 1) l p) (sh l p (ones p) b n) := by
  intro n
  induction n with
  | zero =>
    intro _
    have e1 : wrap64 ((b : Int) * 64) = (b : Int) * 64 := w64 (by omega) (by omega)
    have e4 : wrap64 ((b : Int) * 64 + 64) = (b : Int) * 64 + 64 := w64 (by omega) (by omega)
    have hcp := (cp_is (blk l b) (by rw [blk_len l b (by omega)]; omega)).2
    refine Ev.step (f := fun _ => some (blk l b)) (fun k => ?_) (Ev.now _)
    simp only [impl_rd.l0]
    rw [if_neg (by omega), e1, e4, if_pos (by omega), if_pos (by omega), if_pos (by omega), show ((b : Int) * 64 + 64).toNat = b * 64 + 64 by omega, show ((b : Int) * 64).toNat = b * 64 by omega]
    show (impl_cp.f (blk l b)).bind _ = _
    rw [hcp, Option.bind_some]
  | succ n ih =>
    intro hn
    have hi : n < p.length := by omega
    have e0 : (((n + 1 : Nat) : Int) - 1) = (n : Int) := by omega
    have e1 : wrap64 ((n : Int) - 1) = (n : Int) - 1 := w64 (by omega) (by omega)
    rw [e0, sh, rd62 p n hi]
    by_cases c : p[n].f0 = (b : Int)
    · rw [if_pos ⟨c, ones_rd p n hi⟩]
      have hcp := (cp_is _ (hf p[n] (List.getElem_mem _))).2
      refine Ev.step (f := fun _ => some p[n].f1) (fun k => ?_) (Ev.now _)
      simp only [impl_rd.l0]
      rw [if_pos (by omega), if_pos (by omega), if_pos (by omega), rd62 p n hi, if_pos c, hcp, Option.bind_some]
    · rw [if_neg (fun h => c h.1)]
      refine Ev.step (fun k => ?_) (ih (by omega))
      simp only [impl_rd.l0]
      rw [if_pos (by omega), if_pos (by omega), if_pos (by omega), rd62 p n hi, if_neg c, e1]
theorem read_ev (l : List Int) (p : List S62) (b : Nat) (cv : validD l p = true) (h1 : b < l.length / 64) : Ev (fun k => impl_DiskRead.f k l p (b : Int)) (blk (flushL l p) b) := by
  obtain ⟨hl, hp⟩ := valid_fit l p cv
  obtain ⟨hlv, _, _, _⟩ := valid_facts l p cv
  have iv := impl_ev l p hl hp.1
  have e1 : wrap64 ((p.length : Int) - 1) = (p.length : Int) - 1 := w64 (by omega) (by omega)
  have hs := see l p b hlv hp.1 hp.2 h1 p.length (Nat.le_refl _)
  have hb := flush_blk l p (valid_okP l p cv) p.length 0 (by omega) l rfl (fun b _ => rfl) b h1
  rw [List.drop_zero] at hb
  rw [hb]
  exact Ev.congr (fun k => by unfold impl_DiskRead.f; rfl) (iv.bind (Ev.congr (fun k => by rw [if_pos cv, if_neg (by omega), (nb_is l p hl).2, Option.bind_some, if_neg (by omega)]; unfold impl_rd.f; rw [e1]) (hs.bind (Ev.now _))))
end DX
theorem FnDisk (l0 l1 : List Int) (g0 : l0.length ≤ maxLen ∧ ∀ y ∈ l0, (Lit.int .u8 y).wf = true) (g1 : l1.length ≤ maxLen ∧ ∀ y ∈ l1, (Lit.int .u8 y).wf = true) : ∃ k, laws_FnDisk.f k l0 l1 = some true := by
  suffices h : laws_FnDisk.Good l0 l1 from ⟨0, by unfold laws_FnDisk.f; rw [if_pos h]⟩
  by_cases c0 : (1048576 : Int) < (l0.length : Int)
  · exact Or.inl c0
  refine Or.inr ?_
  by_cases c1 : (1048576 : Int) < (l1.length : Int)
  · exact Or.inl c1
  refine Or.inr ?_
  have hb0 : ∀ x ∈ l0, 0 ≤ x ∧ x ≤ 255 := fun x hx => wfb (g0.2 x hx)
  have hb1 : ∀ x ∈ l1, 0 ≤ x ∧ x ≤ 255 := fun x hx => wfb (g1.2 x hx)
  obtain ⟨d, p, o, a, hD, okd, oko⟩ := DR.draw_ev l0 (by omega) hb0
  have oko1 := oko.1
  have okd1 := okd.1
  have okd2 := okd.2.1
  have hw : wrap64 ((o.length : Int) + 1) = (o.length : Int) + 1 := w64 (by omega) (by omega)
  obtain ⟨t, ht, t0, t1, t2⟩ := DR.at_ev l1 0 ((o.length : Int) + 1) (by omega) hb1 (by omega) (by omega) (by omega)
  have ht1 : t ≤ (o.length : Int) := by
    by_cases h : 1 < (o.length : Int) + 1
    · have := t1 h; omega
    · have := t2 (by omega); omega
  have hgo : ∀ y ∈ o, y.f2.length ≤ 1048576 := fun y hy => Nat.le_trans (oko.2 y hy) (by decide)
  have hcopy := DX.copy_ev d p (by omega) ⟨by omega, fun y hy => Nat.le_trans (okd.2.2 y hy) (by decide)⟩
  have early : (Ev (fun k => spec_DiskDo.f k d p o (-1)) ([], []) ∧ Ev (fun k => impl_DiskDo.f k d p o (-1)) ([], [])) → _ := fun h => (show ∃ d p o a t wd wp, (∃ k, spec_DrawDiskDo.f k l0 = some (d, p, o, a)) ∧ laws_lwAt.f l1 0 (wrap64 ((o.length : Int) + 1)) = some t ∧ (∃ k, laws_lwCopyDisk.f k d p = some (d, p)) ∧ (∃ k, impl_DiskDo.f k d p o (-1) = some (wd, wp)) ∧ (∃ k, spec_DiskDo.f k d p o (-1) = some (wd, wp)) ∧
    ((wd.length = 0 ∧ ∃ fd fp, (∃ k, impl_DiskFlush.f k wd wp = some (fd, fp)) ∧ fd.length = 0) ∨ ∃ y1 y2 ad ap v xd fd xp fp, laws_FnDisk.Main l1 d p o t wd wp y1 y2 ad ap v xd fd xp fp) from
    ⟨d, p, o, a, t, [], [], hD.rounds, by rw [hw]; exact ht, hcopy.rounds, h.2.rounds, h.1.rounds, Or.inl ⟨rfl, [], [], DX.flush_no.rounds, rfl⟩⟩)
  by_cases cv : DK.validD d p = true ∧ o.length ≤ 4000
  rotate_left
  · exact early (DX.do_no d p o (-1) (by omega) (by omega) cv)
  obtain ⟨cv, co⟩ := cv
  have hm1 : DX.lim o (-1) = o.length := rfl
  have hdo := DX.do_ok d p o (-1) cv co hgo
  rw [hm1, List.take_length] at hdo
  cases hr : DX.runO o d p with
  | none => rw [hr] at hdo; exact early hdo
  | some q =>
    rw [hr] at hdo
    obtain ⟨wd, wp⟩ := q
    obtain ⟨hv, hlen⟩ := DX.runO_valid o hgo d p cv _ hr
    dsimp only at hv hlen
    -- the two parts
    obtain ⟨T, hT⟩ := Int.eq_ofNat_of_zero_le t0
    have hT2 : t.toNat = T := by omega
    have hTo : T ≤ o.length := by omega
    have hsplit : o.take T ++ o.drop T = o := List.take_append_drop T o
    have hrun := DX.runO_append (o.take T) (o.drop T) d p
    rw [hsplit, hr] at hrun
    cases hr1 : DX.runO (o.take T) d p with
    | none => rw [hr1] at hrun; cases hrun
    | some q1 =>
      rw [hr1, Option.bind_some] at hrun
      obtain ⟨ad, ap⟩ := q1
      have hg1 : ∀ y ∈ o.take T, y.f2.length ≤ 1048576 := fun y hy => hgo y (List.mem_of_mem_take hy)
      have hg2 : ∀ y ∈ o.drop T, y.f2.length ≤ 1048576 := fun y hy => hgo y (List.mem_of_mem_drop hy)
      obtain ⟨hva, hla⟩ := DX.runO_valid (o.take T) hg1 d p cv _ hr1
      dsimp only at hva hla
      have e1 := (DX.do_ok d p (o.take T) (-1) cv (by rw [List.length_take]; omega) hg1).2
      rw [show DX.lim (o.take T) (-1) = (o.take T).length from rfl, List.take_length, hr1] at e1
      have e2 := (DX.do_ok ad ap (o.drop T) (-1) hva (by rw [List.length_drop]; omega) hg2).2
      rw [show DX.lim (o.drop T) (-1) = (o.drop T).length from rfl, List.take_length, ← hrun] at e2
      have e3 := (DX.do_ok d p o t cv co hgo).2
      rw [show DX.lim o t = T by unfold DX.lim; rw [if_neg (by omega)]; omega, hr1] at e3
      obtain ⟨v, hk, hkl⟩ := DR.keep_ev l1 (by omega) hb1
      obtain ⟨hwl, hwp⟩ := DX.valid_fit wd wp hv
      obtain ⟨hal, hap⟩ := DX.valid_fit ad ap hva
      obtain ⟨xd, hxl, hxb, hcr⟩ := DX.crash_ev wd wp v hv (by omega)
      have hfl := DX.flush_ev wd wp hv
      have him := DX.image_ev wd wp hv
      have hflen := DX.flush_len wd.length wp wd rfl (DX.valid_okP wd wp hv)
      have h64 : 1 ≤ wd.length := by
        unfold DK.validD at hv
        rw [Bool.and_eq_true] at hv
        exact (of_decide_eq_true hv.1).2.1
      refine ⟨d, p, o, a, t, wd, wp, hD.rounds, by rw [hw]; exact ht, hcopy.rounds, hdo.2.rounds, hdo.1.rounds, Or.inr ⟨o.take T, o.drop T, ad, ap, v, xd, DX.flushL wd wp, [], [], ?_⟩⟩
      exact { ht0 := t0, ht1 := ht1, hy1 := by rw [hT2], hy2 := by rw [hT2], c := hcopy.rounds, a1 := e1.rounds, a2 := e2.rounds, s1 := (DX.same_ev wd wp hwp.1).rounds, a3 := e3.rounds, s2 := (DX.same_ev ad ap hap.1).rounds, kp := hk.rounds, cw := (DX.copy_ev wd wp hwl hwp).rounds, cr := hcr.rounds, fl := hfl.rounds, im := him.rounds, sb := DX.eqb _, hx := hxl, hf := hflen, hxp := rfl, hfp := rfl, hn := hwl, hn0 := by omega, hm := hwp.1,
              rd := fun b hb => (DX.read_ev wd wp b hv hb).rounds, sb1 := fun b hb => by rw [hxb b hb]; exact DX.eqb _, sb2 := fun b _ => DX.eqb _ }
end Go.Proofs.Ytdhjhadcadcceaa.Pure
