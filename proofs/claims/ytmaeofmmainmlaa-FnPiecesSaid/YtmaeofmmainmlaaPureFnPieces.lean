/- FnPieces: the pieces of a drawn range lie one behind the other within blocks of rising index, and the blocks that such a file needs are counted. -/
import Derived.Test.YtmaeofmmainmlaaPFnPiecesx
import Derived.Test.YtmaeofmmainmlaaHlp2
namespace Go.Proofs.Ytmaeofmmainmlaa.Pure
open Go.RowKit Go.Proofs.Ytmaeofmmainmlaa.PFnPieces Go.Proofs.YtmaeofmmainmlaaW.PrintWords Go.Proofs.YtmaeofmmainmlaaW.PrintLast Go.Proofs.YtmaeofmmainmlaaW.PrintMore Go.Proofs.Ytmaeofmmainmlaa.Hlp
set_option linter.unusedVariables false
namespace FE
/-- The state of a reader: the bytes, how many draws there were. -/
def okS (c : List Int) (a : Int) : Prop := c.length ≤ 1048576 ∧ (∀ x ∈ c, 0 ≤ x ∧ x ≤ 255) ∧ 0 ≤ a
theorem next_ev (c : List Int) (a z n : Int) (hc : c.length ≤ 1048576) (hb : ∀ x ∈ c, 0 ≤ x ∧ x ≤ 255) (h0 : 0 ≤ a) (h1 : a ≤ 1000000) (hn : n ≤ 1000000) : ∃ v, spec_l1Next.f c a z n = some (v, a + 1, z) ∧ 0 ≤ v ∧ (0 < n → v < n) ∧ (n < 1 → v = 0) := by
  unfold spec_l1Next.f
  have w1 : wrap64 (a + 1) = a + 1 := w64 (by omega) (by omega)
  have w2 : wrap64 (a + 1 - 1) = a := by rw [w64 (by omega) (by omega)]; omega
  rw [w1, w2, w1]
  by_cases c1 : n < 1
  · exact ⟨0, by rw [if_pos c1], by omega, fun h => by omega, fun _ => rfl⟩
  rw [if_neg c1]
  have modk : ∀ x : Int, 0 ≤ x → 0 ≤ Int.tmod x n ∧ (0 < n → Int.tmod x n < n) := fun x hx => by
    rw [Int.tmod_eq_emod_of_nonneg hx]
    exact ⟨Int.emod_nonneg _ (by omega), fun h => Int.emod_lt_of_pos _ h⟩
  by_cases c2 : (c.length : Int) = 0
  · have := modk (wrap64 (a * 7)) (by rw [w64 (by omega) (by omega)]; omega)
    exact ⟨_, by rw [if_pos c2, if_neg (by omega)], this.1, this.2, fun h => by omega⟩
  rw [if_neg c2]
  have hk : 0 < (c.length : Int) := by omega
  have m1 : 0 ≤ Int.tmod a (c.length : Int) ∧ Int.tmod a (c.length : Int) < (c.length : Int) := by
    rw [Int.tmod_eq_emod_of_nonneg h0]
    exact ⟨Int.emod_nonneg _ (by omega), Int.emod_lt_of_pos _ hk⟩
  have w3 : wrap64 (a + 1) = a + 1 := w1
  have m2 : 0 ≤ Int.tmod (a + 1) (c.length : Int) ∧ Int.tmod (a + 1) (c.length : Int) < (c.length : Int) := by
    rw [Int.tmod_eq_emod_of_nonneg (by omega)]
    exact ⟨Int.emod_nonneg _ (by omega), Int.emod_lt_of_pos _ hk⟩
  have r1 := hb _ (rd_mem m1.1 m1.2)
  have r2 := hb _ (rd_mem m2.1 m2.2)
  have d1 : 0 ≤ Int.tdiv a (c.length : Int) ∧ Int.tdiv a (c.length : Int) ≤ a := by
    rw [Int.tdiv_eq_ediv_of_nonneg h0]
    refine ⟨Int.ediv_nonneg h0 (by omega), Int.ediv_le_self _ h0⟩
  obtain ⟨y1, hy1⟩ : ∃ y, rd c (Int.tmod a (c.length : Int)) = y := ⟨_, rfl⟩
  obtain ⟨y2, hy2⟩ : ∃ y, rd c (Int.tmod (a + 1) (c.length : Int)) = y := ⟨_, rfl⟩
  obtain ⟨q, hq⟩ : ∃ y, Int.tdiv a (c.length : Int) = y := ⟨_, rfl⟩
  rw [hy1] at r1
  rw [hy2] at r2
  rw [hq] at d1
  rw [if_pos m1.1, if_pos m1.2, hy1, hq, hy2]
  have w4 : wrap64 y1 = y1 := w64 (by omega) (by omega)
  have w5 : wrap64 q = q := w64 (by omega) (by omega)
  have w6 : wrap64 (q * 37) = q * 37 := w64 (by omega) (by omega)
  have w7 : wrap64 (y1 + q * 37) = y1 + q * 37 := w64 (by omega) (by omega)
  rw [w4, w5, w6, w7]
  by_cases c3 : n > 200
  · have w8 : wrap64 ((y1 + q * 37) * 251) = (y1 + q * 37) * 251 := w64 (by omega) (by omega)
    have w9 : wrap64 (wrap64 y2 * 13) = y2 * 13 := by rw [w64 (x := y2) (by omega) (by omega), w64 (by omega) (by omega)]
    have wa : wrap64 ((y1 + q * 37) * 251 + y2 * 13) = (y1 + q * 37) * 251 + y2 * 13 := w64 (by omega) (by omega)
    have wb : wrap64 ((y1 + q * 37) * 251 + y2 * 13 + a) = (y1 + q * 37) * 251 + y2 * 13 + a := w64 (by omega) (by omega)
    rw [if_pos c3, if_pos m2.1, if_pos m2.2, if_neg (by omega), w8, w9, wa, wb]
    have := modk ((y1 + q * 37) * 251 + y2 * 13 + a) (by omega)
    exact ⟨_, rfl, this.1, this.2, fun h => by omega⟩
  · rw [if_neg c3, if_neg (by omega)]
    have := modk (y1 + q * 37) (by omega)
    exact ⟨_, rfl, this.1, this.2, fun h => by omega⟩
theorem chance_ev (c : List Int) (a z n : Int) (hc : c.length ≤ 1048576) (hb : ∀ x ∈ c, 0 ≤ x ∧ x ≤ 255) (h0 : 0 ≤ a) (h1 : a ≤ 1000000) (hn : n ≤ 1000000) : ∃ b, spec_l1Chance.f c a z n = some (b, a + 1, z) := by
  obtain ⟨v, h, _⟩ := next_ev c a z n hc hb h0 h1 hn
  exact ⟨_, by unfold spec_l1Chance.f; rw [h, Option.bind_some]⟩
theorem source_ev (c : List Int) (hc : c.length ≤ 1048576) : ∃ z, spec_l1Source.f c = some (c, 0, z) ∧ 0 ≤ z ∧ z ≤ 12 := by
  unfold spec_l1Source.f
  by_cases h : (wrap64 ((c.length : Int) / 16)) > 12
  · exact ⟨12, by rw [if_pos h], by omega, by omega⟩
  · rw [w64 (by omega) (by omega)] at h
    exact ⟨(c.length : Int) / 16, by rw [w64 (by omega) (by omega), if_neg h], by omega, by omega⟩
end FE
namespace FN
theorem l1_some (x : List Bool) (hx : x.length = 40) (d : Nat) : ∀ (i : Nat) (n f : Int), i + d = 40 → ∃ r, Ev (fun k => spec_FileNeed.l1 k x n f (i : Int)) r := by
  induction d with
  | zero =>
    intro i n f hi
    exact ⟨_, Ev.step (f := fun _ => some (wrap64 (n + f))) (fun k => by simp only [spec_FileNeed.l1]; rw [if_neg (by omega)]) (Ev.now _)⟩
  | succ d ih =>
    intro i n f hi
    by_cases hb : rdOf false x (i : Int) = true
    · by_cases h8 : (i : Int) ≥ 8
      · obtain ⟨r, h⟩ := ih (i + 1) (wrap64 (n + 1)) 1 (by omega)
        exact ⟨r, Ev.step (fun k => by simp only [spec_FileNeed.l1]; rw [if_pos (by omega), if_pos (by omega), if_pos hb, if_pos h8, show wrap64 ((i : Int) + 1) = ((i + 1 : Nat) : Int) by unfold wrap64; omega]) h⟩
      · obtain ⟨r, h⟩ := ih (i + 1) (wrap64 (n + 1)) f (by omega)
        exact ⟨r, Ev.step (fun k => by simp only [spec_FileNeed.l1]; rw [if_pos (by omega), if_pos (by omega), if_pos hb, if_neg h8, show wrap64 ((i : Int) + 1) = ((i + 1 : Nat) : Int) by unfold wrap64; omega]) h⟩
    · obtain ⟨r, h⟩ := ih (i + 1) n f (by omega)
      exact ⟨r, Ev.step (fun k => by simp only [spec_FileNeed.l1]; rw [if_pos (by omega), if_pos (by omega), if_neg hb, show wrap64 ((i : Int) + 1) = ((i + 1 : Nat) : Int) by unfold wrap64; omega]) h⟩
theorem l0_some (l : List Int) (hl : l.length ≤ 100000) (d : Nat) : ∀ (i : Nat) (x : List Bool), x.length = 40 → i + d = l.length → ∃ r, Ev (fun k => spec_FileNeed.l0 k l x (i : Int)) r := by
  induction d with
  | zero =>
    intro i x hx hi
    obtain ⟨r, h⟩ := l1_some x hx 40 0 0 0 (by omega)
    exact ⟨r, Ev.step (fun k => by simp only [spec_FileNeed.l0]; rw [if_neg (by omega)]; rfl) h⟩
  | succ d ih =>
    intro i x hx hi
    by_cases h0 : rd l (i : Int) < 0
    · exact ⟨-1, Ev.step (f := fun _ => some (-1)) (fun k => by simp only [spec_FileNeed.l0]; rw [if_pos (by omega), if_pos (by omega), if_pos h0]) (Ev.now _)⟩
    · by_cases h1 : rd l (i : Int) ≥ 40
      · exact ⟨-1, Ev.step (f := fun _ => some (-1)) (fun k => by simp only [spec_FileNeed.l0]; rw [if_pos (by omega), if_pos (by omega), if_neg h0, if_pos h1]) (Ev.now _)⟩
      · obtain ⟨r, h⟩ := ih (i + 1) (x.set (rd l (i : Int)).toNat true) (by simpa using hx) (by omega)
        exact ⟨r, Ev.step (fun k => by simp only [spec_FileNeed.l0]; rw [if_pos (by omega), if_pos (by omega), if_neg h0, if_neg h1, if_pos (by omega), if_pos (by omega), show wrap64 ((i : Int) + 1) = ((i + 1 : Nat) : Int) by unfold wrap64; omega]) h⟩
theorem spec_some (l : List Int) : ∃ r, Ev (fun k => spec_FileNeed.f k l) r := by
  by_cases h : (l.length : Int) > 100000
  · exact ⟨-1, Ev.congr (fun k => by unfold spec_FileNeed.f; rw [if_pos h]) (Ev.now _)⟩
  · obtain ⟨r, h1⟩ := l0_some l (by omega) l.length 0 (List.replicate 40 false) (by simp) (by omega)
    exact ⟨r, Ev.congr (fun k => by unfold spec_FileNeed.f; rw [if_neg h, if_pos (by omega)]) (show Ev (fun k => spec_FileNeed.l0 k l (List.replicate 40 false) 0) r from h1)⟩
end FN
namespace SP
theorem evOne {α : Type} {g : Nat → Option α} {a b : α} (h1 : Ev g a) (h2 : Ev g b) : a = b := by
  obtain ⟨k1, h1⟩ := h1
  obtain ⟨k2, h2⟩ := h2
  exact Option.some.inj ((h1 (max k1 k2) (Nat.le_max_left _ _)).symm.trans (h2 (max k1 k2) (Nat.le_max_right _ _)))
theorem rd57 (l : List S57) (i : Nat) (h : i < l.length) : rd_T57 l (i : Int) = l[i] := by simp [rd_T57, h]
theorem rd_last (a : List S57) (e : S57) (j : Int) (h : j = a.length) : rd_T57 (a ++ [e]) j = e := by
  subst h; rw [rd57 _ a.length (by simp)]; simp
theorem set_last (a : List S57) (e f : S57) (j : Int) (h : j = a.length) : (a ++ [e]).set j.toNat f = a ++ [f] := by
  subst h; simp
/-- The reference's steps within one block. -/
theorem within (x n : Int) (acc : List S57) (b o s : Int) (hx : 0 ≤ x) (hn : x + n ≤ 2560) (hs : 0 ≤ s) (hb : b * 64 + o = x + s) (ho : 0 ≤ o) (r : List S57) (hl : acc.length ≤ 2560) :
    ∀ d : Nat, ∀ c : Int, 1 ≤ c → o + c + d ≤ 64 → s + c + d ≤ n → Ev (fun k => spec_Spans.l0 k x n (acc ++ [⟨b, o, c + d, s⟩]) (s + c + d)) r → Ev (fun k => spec_Spans.l0 k x n (acc ++ [⟨b, o, c, s⟩]) (s + c)) r := by
  intro d
  induction d with
  | zero => intro c _ _ _ h; simpa using h
  | succ d ih =>
    intro c h1 h2 h3 h
    have h' := ih (c + 1) (by omega) (by omega) (by omega) (by
      rw [show c + 1 + (d : Int) = c + ((d + 1 : Nat) : Int) by omega, show s + (c + 1) + (d : Int) = s + c + ((d + 1 : Nat) : Int) by omega]; exact h)
    refine Ev.step (fun k => ?_) h'
    have e1 : ((acc ++ [(⟨b, o, c, s⟩ : S57)]).length : Int) = acc.length + 1 := by simp
    have e2 : wrap64 ((acc.length : Int) + 1 - 1) = acc.length := by rw [w64 (by omega) (by omega)]; omega
    have e3 : wrap64 (Int.tdiv (wrap64 (x + (s + c))) 64) = b := by
      rw [w64 (x := x + (s + c)) (by omega) (by omega), Int.tdiv_eq_ediv_of_nonneg (by omega), w64 (by omega) (by omega)]; omega
    simp only [spec_Spans.l0]
    rw [if_pos (by omega), e1, e2, if_pos (by omega), if_pos (by omega), if_pos (by omega), rd_last _ _ _ rfl, e3, if_pos rfl, set_last _ _ _ _ rfl]
    simp only
    rw [w64 (x := c + 1) (by omega) (by omega), w64 (by omega) (by omega), show s + c + 1 = s + (c + 1) by omega]
theorem outer (x n : Int) (hx : 0 ≤ x) (hn : x + n ≤ 2560) (m : Nat) : ∀ (acc : List S57) (s : Int), 0 ≤ s → s + m = n → acc.length ≤ s → (s < n → ∀ e, acc.getLast? = some e → e.f0 < (x + s) / 64) →
    ∃ r, Ev (fun k => impl_Spans.l0 k x n acc s) r ∧ Ev (fun k => spec_Spans.l0 k x n acc s) r ∧ r.length ≤ 2560 := by
  induction m using Nat.strongRecOn with
  | _ m ih =>
    intro acc s h0 hm hl hlast
    by_cases c : s < n
    rotate_left
    · exact ⟨acc, Ev.step (f := fun _ => some acc) (fun k => by simp only [impl_Spans.l0]; rw [if_neg c]) (Ev.now _), Ev.step (f := fun _ => some acc) (fun k => by simp only [spec_Spans.l0]; rw [if_neg c]) (Ev.now _), by omega⟩
    have hw : wrap64 (x + s) = x + s := w64 (by omega) (by omega)
    have hd : wrap64 (Int.tdiv (x + s) 64) = (x + s) / 64 := by rw [Int.tdiv_eq_ediv_of_nonneg (by omega), w64 (by omega) (by omega)]
    have hm' : Int.tmod (x + s) 64 = (x + s) % 64 := Int.tmod_eq_emod_of_nonneg (by omega)
    obtain ⟨q, hq⟩ : ∃ q : Int, q = mn (wrap64 (64 - (x + s) % 64)) (wrap64 (n - s)) := ⟨_, rfl⟩
    have hq2 : 1 ≤ q ∧ (x + s) % 64 + q ≤ 64 ∧ s + q ≤ n ∧ (s + q < n → (x + s) % 64 + q = 64) := by
      rw [w64 (by omega) (by omega), w64 (by omega) (by omega)] at hq
      unfold mn at hq
      split at hq <;> omega
    obtain ⟨r, h1, h2, h3⟩ := ih (m - q.toNat) (by omega) (acc ++ [⟨(x + s) / 64, (x + s) % 64, q, s⟩]) (s + q) (by omega) (by omega) (by simp; omega) (fun hlt e he => by
      have : e = ⟨(x + s) / 64, (x + s) % 64, q, s⟩ := by simpa using he.symm
      subst this
      have := hq2.2.2.2 hlt
      simp only
      omega)
    refine ⟨r, ?_, ?_, h3⟩
    · refine Ev.step (fun k => ?_) h1
      simp only [impl_Spans.l0]
      rw [if_pos c, if_pos (by omega), hw, hd, hm', ← hq, w64 (by omega) (by omega)]
    · have w := within x n acc ((x + s) / 64) ((x + s) % 64) s hx hn h0 (by omega) (by omega) r (by omega) (q - 1).toNat 1 (by omega) (by omega) (by omega) (by
        rw [show (1 : Int) + ((q - 1).toNat : Int) = q by omega, show s + 1 + ((q - 1).toNat : Int) = s + q by omega]; exact h2)
      refine Ev.step (fun k => ?_) w
      have hw1 : wrap64 (s + 1) = s + 1 := w64 (by omega) (by omega)
      simp only [spec_Spans.l0]
      rw [if_pos c]
      by_cases z : (acc.length : Int) > 0
      · have hn1 : wrap64 ((acc.length : Int) - 1) = (acc.length : Int) - 1 := w64 (by omega) (by omega)
        have hne : acc ≠ [] := fun h => by rw [h] at z; simp at z
        have hg : rd_T57 acc ((acc.length : Int) - 1) = acc.getLast hne := by
          rw [show (acc.length : Int) - 1 = ((acc.length - 1 : Nat) : Int) by omega, rd57 _ _ (by omega), List.getLast_eq_getElem]
        have hlt := hlast c _ (List.getLast?_eq_some_getLast hne)
        rw [if_pos z, hn1, if_pos (by omega), if_pos (by omega), hg, hw, hd, hm', if_neg (by omega), if_pos (by omega), hw1]
      · rw [if_neg z, hw, hd, hm', if_pos (by omega), hw1]
theorem both (x n : Int) : ∃ r, Ev (fun k => impl_Spans.f k x n) r ∧ Ev (fun k => spec_Spans.f k x n) r ∧ r.length ≤ 2560 := by
  have st : Ev (fun k => spec_Spans.j0 k x n [] true) [] := Ev.step (f := fun _ => some []) (fun k => by simp only [spec_Spans.j0]; rw [if_pos trivial]) (Ev.now _)
  have it : Ev (fun k => impl_Spans.j0 k x n true) [] := Ev.step (f := fun _ => some []) (fun k => by simp only [impl_Spans.j0]; rw [if_pos trivial]) (Ev.now _)
  by_cases c1 : x < 0
  · exact ⟨[], Ev.congr (fun k => by unfold impl_Spans.f; rw [if_pos c1]) it, Ev.congr (fun k => by unfold spec_Spans.f; rw [Option.bind_some, if_pos c1]) st, by simp⟩
  by_cases c2 : n < 0
  · exact ⟨[], Ev.congr (fun k => by unfold impl_Spans.f; rw [if_neg c1, if_pos c2]) it, Ev.congr (fun k => by unfold spec_Spans.f; rw [Option.bind_some, if_neg c1, if_pos c2]) st, by simp⟩
  by_cases c3 : x > 2560
  · exact ⟨[], Ev.congr (fun k => by unfold impl_Spans.f; rw [if_neg c1, if_neg c2, if_pos c3]) it, Ev.congr (fun k => by unfold spec_Spans.f; rw [Option.bind_some, if_neg c1, if_neg c2, if_pos c3]) st, by simp⟩
  have hw : wrap64 (2560 - x) = 2560 - x := w64 (by omega) (by omega)
  by_cases c4 : n > 2560 - x
  · refine ⟨[], ?_, Ev.congr (fun k => by unfold spec_Spans.f; rw [Option.bind_some, if_neg c1, if_neg c2, if_neg c3, hw, decide_eq_true c4]) st, by simp⟩
    by_cases c5 : n > 2560
    · exact Ev.congr (fun k => by unfold impl_Spans.f; rw [if_neg c1, if_neg c2, if_neg c3, if_pos c5]) it
    · exact Ev.congr (fun k => by unfold impl_Spans.f; rw [if_neg c1, if_neg c2, if_neg c3, if_neg c5, w64 (by omega) (by omega), decide_eq_true (by omega)]) it
  · obtain ⟨r, h1, h2, h3⟩ := outer x n (by omega) (by omega) n.toNat [] 0 (by omega) (by omega) (by simp) (fun _ e he => by cases he)
    refine ⟨r, ?_, ?_, h3⟩
    · refine Ev.congr (fun k => by unfold impl_Spans.f; rw [if_neg c1, if_neg c2, if_neg c3, if_neg (by omega), w64 (by omega) (by omega), decide_eq_false (by omega)]) ?_
      exact Ev.step (fun k => by simp only [impl_Spans.j0]; rw [if_neg (by decide)]) h1
    · refine Ev.congr (fun k => by unfold spec_Spans.f; rw [Option.bind_some, if_neg c1, if_neg c2, if_neg c3, hw, decide_eq_false c4]) ?_
      exact Ev.step (fun k => by simp only [spec_Spans.j0]; rw [if_neg (by decide)]) h2
/-- The pieces from place s of the range on. -/
def good (x n : Int) : Int → List S57 → Prop
  | s, [] => s = n
  | s, e :: t => e = ⟨(x + s) / 64, (x + s) % 64, e.f2, s⟩ ∧ 1 ≤ e.f2 ∧ (x + s) % 64 + e.f2 ≤ 64 ∧ s + e.f2 ≤ n ∧ (s + e.f2 < n → (x + s) % 64 + e.f2 = 64) ∧ good x n (s + e.f2) t
theorem pieces (x n : Int) (hx : 0 ≤ x) (hn : x + n ≤ 2560) (m : Nat) : ∀ (acc : List S57) (s : Int) (r : List S57), 0 ≤ s → s + m = n → acc.length ≤ s → Ev (fun k => impl_Spans.l0 k x n acc s) r → ∃ t, r = acc ++ t ∧ good x n s t := by
  induction m using Nat.strongRecOn with
  | _ m ih =>
    intro acc s r h0 hm hl hr
    by_cases c : s < n
    rotate_left
    · have hs : Ev (fun k => impl_Spans.l0 k x n acc s) acc := Ev.step (f := fun _ => some acc) (fun k => by simp only [impl_Spans.l0]; rw [if_neg c]) (Ev.now _)
      obtain rfl := evOne hr hs
      exact ⟨[], by simp, by show s = n; omega⟩
    have hw : wrap64 (x + s) = x + s := w64 (by omega) (by omega)
    have hd : wrap64 (Int.tdiv (x + s) 64) = (x + s) / 64 := by rw [Int.tdiv_eq_ediv_of_nonneg (by omega), w64 (by omega) (by omega)]
    have hm' : Int.tmod (x + s) 64 = (x + s) % 64 := Int.tmod_eq_emod_of_nonneg (by omega)
    obtain ⟨q, hq⟩ : ∃ q : Int, q = mn (wrap64 (64 - (x + s) % 64)) (wrap64 (n - s)) := ⟨_, rfl⟩
    have hq2 : 1 ≤ q ∧ (x + s) % 64 + q ≤ 64 ∧ s + q ≤ n ∧ (s + q < n → (x + s) % 64 + q = 64) := by
      rw [w64 (by omega) (by omega), w64 (by omega) (by omega)] at hq
      unfold mn at hq
      split at hq <;> omega
    obtain ⟨r2, h2, _, _⟩ := outer x n hx hn (m - q.toNat) (acc ++ [⟨(x + s) / 64, (x + s) % 64, q, s⟩]) (s + q) (by omega) (by omega) (by simp; omega) (fun hlt e he => by
      have : e = ⟨(x + s) / 64, (x + s) % 64, q, s⟩ := by simpa using he.symm
      subst this
      have := hq2.2.2.2 hlt
      simp only
      omega)
    have hst : Ev (fun k => impl_Spans.l0 k x n acc s) r2 := by
      refine Ev.step (fun k => ?_) h2
      simp only [impl_Spans.l0]
      rw [if_pos c, if_pos (by omega), hw, hd, hm', ← hq, w64 (by omega) (by omega)]
    obtain rfl := evOne hr hst
    obtain ⟨t, e, g⟩ := ih (m - q.toNat) (by omega) (acc ++ [⟨(x + s) / 64, (x + s) % 64, q, s⟩]) (s + q) r (by omega) (by omega) (by simp; omega) h2
    exact ⟨⟨(x + s) / 64, (x + s) % 64, q, s⟩ :: t, by rw [e, List.append_assoc]; rfl, rfl, hq2.1, hq2.2.1, hq2.2.2.1, hq2.2.2.2, g⟩
theorem spans_good (x n : Int) : ∃ r, Ev (fun k => impl_Spans.f k x n) r ∧ Ev (fun k => spec_Spans.f k x n) r ∧ (r ≠ [] → 0 ≤ x ∧ 0 ≤ n ∧ x + n ≤ 2560 ∧ good x n 0 r) := by
  obtain ⟨r, h1, h2, _⟩ := both x n
  refine ⟨r, h1, h2, fun hne => ?_⟩
  have it : Ev (fun k => impl_Spans.j0 k x n true) [] := Ev.step (f := fun _ => some []) (fun k => by simp only [impl_Spans.j0]; rw [if_pos trivial]) (Ev.now _)
  have no : ∀ h : Ev (fun k => impl_Spans.f k x n) [], False := fun h => hne (evOne h1 h)
  by_cases c1 : x < 0
  · exact (no (Ev.congr (fun k => by unfold impl_Spans.f; rw [if_pos c1]) it)).elim
  by_cases c2 : n < 0
  · exact (no (Ev.congr (fun k => by unfold impl_Spans.f; rw [if_neg c1, if_pos c2]) it)).elim
  by_cases c3 : x > 2560
  · exact (no (Ev.congr (fun k => by unfold impl_Spans.f; rw [if_neg c1, if_neg c2, if_pos c3]) it)).elim
  by_cases c4 : n > 2560
  · exact (no (Ev.congr (fun k => by unfold impl_Spans.f; rw [if_neg c1, if_neg c2, if_neg c3, if_pos c4]) it)).elim
  by_cases c5 : x + n > 2560
  · exact (no (Ev.congr (fun k => by unfold impl_Spans.f; rw [if_neg c1, if_neg c2, if_neg c3, if_neg c4, w64 (by omega) (by omega), decide_eq_true c5]) it)).elim
  obtain ⟨r', h3, _, _⟩ := outer x n (by omega) (by omega) n.toNat [] 0 (by omega) (by omega) (by simp) (fun _ e he => by cases he)
  have h4 : Ev (fun k => impl_Spans.f k x n) r' := by
    refine Ev.congr (fun k => by unfold impl_Spans.f; rw [if_neg c1, if_neg c2, if_neg c3, if_neg c4, w64 (by omega) (by omega), decide_eq_false c5]) ?_
    exact Ev.step (fun k => by simp only [impl_Spans.j0]; rw [if_neg (by decide)]) h3
  obtain rfl := evOne h1 h4
  obtain ⟨t, e, g⟩ := pieces x n (by omega) (by omega) n.toNat [] 0 r (by omega) (by omega) (by simp) h3
  refine ⟨by omega, by omega, by omega, ?_⟩
  rw [e]; exact g
/-- What is marked when the first c of the indexes have been seen. -/
def mkd (a c : Nat) (z : List Bool) : Prop := z.length = 40 ∧ (z.filter id).length = c ∧ (∀ v : Nat, v < 40 → z.getD v false = decide (a ≤ v ∧ v < a + c)) ∧ fnFar z = if 0 < c ∧ 8 < a + c then 1 else 0
theorem mkd_start (a : Nat) : mkd a 0 (List.replicate 40 false) := by
  refine ⟨by simp, by simp, fun v hv => ?_, by rw [if_neg (by omega)]; rfl⟩
  rw [decide_eq_false (by omega), List.getD_eq_getElem?_getD, List.getElem?_replicate, if_pos hv]; rfl
theorem mkd_step (a c : Nat) (z : List Bool) (h : mkd a c z) (hac : a + c < 40) : mkd a (c + 1) (z.set (a + c) true) := by
  obtain ⟨h1, h2, h3, h4⟩ := h
  refine ⟨by simpa using h1, ?_, fun v hv => ?_, ?_⟩
  · rw [fn_count z (a + c) (by omega), h2, h3 _ hac, decide_eq_false (by omega)]; rfl
  · by_cases e : v = a + c
    · subst e; rw [decide_eq_true (by omega), List.getD_eq_getElem?_getD, List.getElem?_set_self (by omega)]; rfl
    · have := h3 v hv
      rw [List.getD_eq_getElem?_getD] at this ⊢
      rw [List.getElem?_set_ne (fun h => e h.symm), this, decide_eq_decide]; omega
  · rw [fn_far_set z (a + c) (by omega), h4]
    by_cases e : 8 ≤ a + c
    · rw [if_pos e, if_pos (by omega)]
    · rw [if_neg e, if_neg (by omega), if_neg (by omega)]
theorem need_ev (l : List Int) (a m : Nat) (ham : a + m ≤ 40) (hl : l.length = 2 * m) (h : ∀ c : Nat, c < m → rd l ((2 * c : Nat) : Int) = ((a + c : Nat) : Int) ∧ rd l ((2 * c + 1 : Nat) : Int) = ((a + c : Nat) : Int)) :
    Ev (fun k => impl_FileNeed.f k l) ((m : Int) + if 0 < m ∧ 8 < a + m then 1 else 0) := by
  have key : ∀ d c : Nat, ∀ z : List Bool, c + d = m → mkd a c z → Ev (fun k => spec_FileNeed.l0 k l z ((2 * c : Nat) : Int)) ((m : Int) + if 0 < m ∧ 8 < a + m then 1 else 0) := by
    intro d
    induction d with
    | zero =>
      intro c z hc hz
      obtain rfl : c = m := by omega
      obtain ⟨r, hr⟩ := FN.l1_some z hz.1 40 0 0 0 (by omega)
      obtain ⟨k, hk⟩ := Ev.rounds hr
      have hv := fn_l1 z hz.1 k 0 0 0 r hk (by omega) (by omega) (by omega) (by omega) (by omega)
      have e : r = ((c : Int) + if 0 < c ∧ 8 < a + c then 1 else 0) := by
        have h4 := hz.2.2.2
        unfold fnFar at h4
        rw [hv, List.drop_zero, hz.2.1, show max 0 8 = 8 from rfl, h4]; omega
      rw [← e]
      exact Ev.step (fun k => by simp only [spec_FileNeed.l0]; rw [if_neg (by omega)]; rfl) hr
    | succ d ih =>
      intro c z hc hz
      obtain ⟨r1, r2⟩ := h c (by omega)
      have h1 := ih (c + 1) (z.set (a + c) true) (by omega) (mkd_step a c z hz (by omega))
      have hz1 := hz.1
      refine Ev.step (f := fun k => spec_FileNeed.l0 k l (z.set (a + c) true) ((2 * c + 1 : Nat) : Int)) (fun k => ?_) ?_
      · simp only [spec_FileNeed.l0]
        rw [if_pos (by omega), if_pos (by omega), r1, if_neg (by omega), if_neg (by omega), if_pos (by omega), if_pos (by omega), Int.toNat_natCast, show wrap64 (((2 * c : Nat) : Int) + 1) = ((2 * c + 1 : Nat) : Int) by rw [w64 (by omega) (by omega)]; omega]
      · refine Ev.step (f := fun k => spec_FileNeed.l0 k l (z.set (a + c) true) ((2 * (c + 1) : Nat) : Int)) (fun k => ?_) h1
        simp only [spec_FileNeed.l0]
        rw [if_pos (by omega), if_pos (by omega), r2, if_neg (by omega), if_neg (by omega), if_pos (by omega), if_pos (by rw [List.length_set]; omega), Int.toNat_natCast, List.set_set, show wrap64 (((2 * c + 1 : Nat) : Int) + 1) = ((2 * (c + 1) : Nat) : Int) by rw [w64 (by omega) (by omega)]; omega]
  have := key m 0 (List.replicate 40 false) (by omega) (mkd_start a)
  refine Ev.congr (fun k => ?_) (show Ev (fun k => spec_FileNeed.l0 k l (List.replicate 40 false) 0) _ from this)
  unfold impl_FileNeed.f spec_FileNeed.f
  rw [if_neg (by omega), if_pos (by decide)]
theorem rd_app2 (l : List Int) (v : Int) (j : Nat) : (j < l.length → rd (l ++ [v, v]) (j : Int) = rd l (j : Int)) ∧ (j = l.length ∨ j = l.length + 1 → rd (l ++ [v, v]) (j : Int) = v) := by
  constructor
  · intro h
    rw [rd_nat _ j (by simp; omega), rd_nat l j h, List.getElem_append_left]
  · intro h
    rw [rd_nat _ j (by simp; omega), List.getElem_append_right (by omega)]
    rcases h with h | h
    · simp [h]
    · simp [h]
theorem aux1 (y : Int) (a m : Nat) (h : y = a) (hp : 0 < m) (g : 8 < a + m) : y + ((m - 1 : Nat) : Int) ≥ 8 := by omega
theorem aux2 (y : Int) (a m : Nat) (h : y = a) (hp : 0 < m) (g : ¬ 8 < a + m) : ¬ y + ((m - 1 : Nat) : Int) ≥ 8 := by omega
theorem aux3 (m n : Nat) (h : n = 2 * m) (hp : 0 < m) : ((2 * (m - 1) + 1 : Nat) : Int) < (n : Int) := by omega
theorem aux4 (x s : Int) (h0 : 0 ≤ x + s) (h1 : x + s ≤ 2560) : wrap64 (wrap64 ((x + s) / 64 * 64) + (x + s) % 64) = x + s := by
  rw [w64 (x := (x + s) / 64 * 64) (by omega) (by omega), w64 (by omega) (by omega)]; omega
theorem aux5 (x s q : Int) (h1 : (x + s) % 64 + q ≤ 64) (h2 : 1 ≤ q) : wrap64 ((x + s) % 64 + q) = (x + s) % 64 + q := w64 (by omega) (by omega)
theorem aux6 (m : Nat) (h : m ≤ 40) : wrap64 ((m : Int) + 1) = (m : Int) + 1 := w64 (by omega) (by omega)
theorem aux7 (s q n x : Int) (h0 : 0 ≤ s) (h1 : 1 ≤ q) (h2 : s + q ≤ n) (h3 : x + n ≤ 2560) (h4 : 0 ≤ x) : wrap64 (s + q) = s + q := w64 (by omega) (by omega)
theorem aux8 (m n : Nat) (h : n = 2 * m) (hp : m ≤ 40) : n + 2 < 17592186044416 := by omega
theorem aux9 (x s n : Int) (h : s ≤ n) (h1 : x + n ≤ 2560) : x + s ≤ 2560 := by omega
theorem aux10 (x s : Int) (h0 : 0 ≤ x + s) (h1 : x + s ≤ 2560) : wrap64 (x + s) = x + s := w64 (by omega) (by omega)
/-- The law's loop from the piece i on. -/
theorem walk (x n : Int) (r : List S57) (hx : 0 ≤ x) (hn : x + n ≤ 2560) (hne : r ≠ []) (t : List S57) : ∀ (pre : List S57) (s : Int) (l : List Int), r = pre ++ t → 0 ≤ s → s ≤ n → good x n s t → pre.length ≤ 40 → l.length = 2 * pre.length →
    (∀ c : Nat, c < pre.length → rd l ((2 * c : Nat) : Int) = x / 64 + c ∧ rd l ((2 * c + 1 : Nat) : Int) = x / 64 + c) → (0 < pre.length → x / 64 + pre.length ≤ 40 ∧ (s < n → (x + s) % 64 = 0 ∧ (x + s) / 64 = x / 64 + pre.length)) → (pre.length = 0 → s = 0) →
    Ev (fun k => laws_FnPieces.l0 k x n r s l (pre.length : Int)) true := by
  induction t with
  | nil =>
    intro pre s l hr h0 hs hg hp hl hc h40 hz
    have hsn : s = n := hg
    have hrp : r = pre := by simpa using hr
    have hpos : 0 < pre.length := by
      rcases Nat.eq_zero_or_pos pre.length with h | h
      · exact absurd (by rw [hrp]; exact List.eq_nil_of_length_eq_zero h) hne
      · exact h
    have hlen : r.length = pre.length := by rw [hrp]
    obtain ⟨a, ha⟩ := Int.eq_ofNat_of_zero_le (show 0 ≤ x / 64 by omega)
    have hb := (h40 hpos).1
    have hnd := need_ev l a pre.length (by omega) hl (fun c h => by have := hc c h; rw [ha] at this; exact ⟨by rw [this.1]; omega, by rw [this.2]; omega⟩)
    refine Ev.step (f := fun k => laws_FnPieces.j1 k r l false) (fun k => ?_) ?_
    · simp only [laws_FnPieces.l0]
      rw [if_neg (by omega), if_pos hsn, show ((r.length : Int) == 0) = false from beq_eq_false_iff_ne.mpr (by omega)]
    have hw : wrap64 ((l.length : Int) - 1) = ((2 * (pre.length - 1) + 1 : Nat) : Int) := by rw [w64 (by omega) (by omega)]; omega
    have hlast := (hc (pre.length - 1) (by omega)).2
    have hw2 : wrap64 ((r.length : Int) + 1) = (r.length : Int) + 1 := w64 (by omega) (by omega)
    by_cases g : 8 < a + pre.length
    · rw [if_pos ⟨hpos, g⟩] at hnd
      refine Ev.step (f := fun k => (impl_FileNeed.f k l).bind fun t189 => (some (t189 == (r.length : Int) + 1))) (fun k => ?_) ?_
      · simp only [laws_FnPieces.j1]
        rw [if_neg (by decide), hw, if_pos (Int.natCast_nonneg _), if_pos (aux3 _ _ hl hpos), hlast, if_pos (aux1 _ _ _ ha hpos g), hw2]
      · refine hnd.bind ?_
        exact Ev.congr (fun k => by rw [show ((pre.length : Int) + 1 == (r.length : Int) + 1) = true from beq_iff_eq.mpr (by rw [hlen])]) (Ev.now true)
    · rw [if_neg (fun h => g h.2)] at hnd
      refine Ev.step (f := fun k => (impl_FileNeed.f k l).bind fun t189 => (some (t189 == (r.length : Int)))) (fun k => ?_) ?_
      · simp only [laws_FnPieces.j1]
        rw [if_neg (by decide), hw, if_pos (Int.natCast_nonneg _), if_pos (aux3 _ _ hl hpos), hlast, if_neg (aux2 _ _ _ ha hpos g)]
      · refine hnd.bind ?_
        exact Ev.congr (fun k => by rw [show ((pre.length : Int) + 0 == (r.length : Int)) = true from beq_iff_eq.mpr (by rw [hlen, Int.add_zero])]) (Ev.now true)
  | cons e t ih =>
    intro pre s l hr h0 hs hg hp hl hc h40 hz
    obtain ⟨he, g1, g2, g3, g4, g5⟩ := hg
    have hlr : pre.length < r.length := by rw [hr]; simp
    have hrd : rd_T57 r (pre.length : Int) = e := by
      rw [rd57 r pre.length hlr]
      simp [hr]
    have f0 : e.f0 = (x + s) / 64 := by rw [he]
    have f1 : e.f1 = (x + s) % 64 := by rw [he]
    have f3 : e.f3 = s := by rw [he]
    have hblk : (x + s) / 64 = x / 64 + pre.length := by
      rcases Nat.eq_zero_or_pos pre.length with h | h
      · rw [hz h, h]; simp
      · exact ((h40 h).2 (by omega)).2
    have hmod : 0 < pre.length → (x + s) % 64 = 0 := fun h => ((h40 h).2 (by omega)).1
    have h39 : x / 64 + pre.length < 40 := by omega
    have key := ih (pre ++ [e]) (s + e.f2) (l ++ [e.f0, e.f0]) (by rw [hr]; simp) (by omega) (by omega) g5 (by simp; omega) (by simp; omega) (fun c hcl => by
        simp only [List.length_append, List.length_cons, List.length_nil] at hcl
        by_cases hlt : c < pre.length
        · obtain ⟨q1, q2⟩ := hc c hlt
          exact ⟨by rw [(rd_app2 l e.f0 (2 * c)).1 (by omega), q1], by rw [(rd_app2 l e.f0 (2 * c + 1)).1 (by omega), q2]⟩
        · obtain rfl : c = pre.length := by omega
          exact ⟨by rw [(rd_app2 l e.f0 (2 * pre.length)).2 (by omega), f0, hblk], by rw [(rd_app2 l e.f0 (2 * pre.length + 1)).2 (by omega), f0, hblk]⟩) (fun _ => by
        simp only [List.length_append, List.length_cons, List.length_nil]
        refine ⟨by omega, fun hlt => ?_⟩
        have := g4 hlt
        constructor <;> omega) (fun h => by simp at h)
    have hcast : (((pre ++ [e]).length : Nat) : Int) = (pre.length : Int) + 1 := by simp
    rw [hcast] at key
    have w1 := aux6 _ hp
    have w2 := aux7 s e.f2 n x h0 g1 g3 hn hx
    have w3 := aux4 x s (Int.add_nonneg hx h0) (aux9 x s n hs hn)
    have w4 := aux10 x s (Int.add_nonneg hx h0) (aux9 x s n hs hn)
    have w5 := aux5 x s e.f2 g2 g1
    have h8 := aux8 _ _ hl hp
    have hmz := Int.emod_nonneg (x + s) (show (64 : Int) ≠ 0 by decide)
    refine Ev.step (fun k => ?_) key
    simp only [laws_FnPieces.l0]
    rw [if_pos (Int.ofNat_lt.mpr hlr), if_pos (Int.natCast_nonneg _), hrd, if_pos f3, if_neg (Int.not_lt.mpr g1), f1, f0, w3, w4, if_pos rfl, if_neg (Int.not_lt.mpr hmz), w5, if_neg (Int.not_lt.mpr g2), Option.bind_some]
    by_cases z : (pre.length : Int) > 0
    · rw [if_pos z, if_pos (hmod (Int.ofNat_lt.mp z)), if_pos (by exact h8), w1, w2]
    · rw [if_neg z, if_pos (by exact h8), w1, w2]
end SP
theorem FnPieces : laws_FnPieces.Pure := by
  intro c _ hl hw
  by_cases h : (c.length : Int) > 1048576
  · exact ⟨0, by unfold laws_FnPieces.f; rw [if_pos h]⟩
  have hc : c.length ≤ 1048576 := by omega
  have hb : ∀ x ∈ c, 0 ≤ x ∧ x ≤ 255 := fun x hx => wfb (hw x hx)
  have hd : ∃ x n, Ev (fun k => spec_DrawSpans.f k c) (x, n) := by
    obtain ⟨z, hs, _, _⟩ := FE.source_ev c hc
    obtain ⟨v1, e1, _⟩ := FE.next_ev c 0 z 400 hc hb (by omega) (by omega) (by omega)
    obtain ⟨v2, e2, _⟩ := FE.next_ev c (0 + 1) z 300 hc hb (by omega) (by omega) (by omega)
    obtain ⟨v3, e3, _⟩ := FE.next_ev c (0 + 1 + 1) z 12 hc hb (by omega) (by omega) (by omega)
    have j1 : ∀ (p q v a : Int), 0 ≤ a → a ≤ 1000 → ∃ x n, Ev (fun k => spec_DrawSpans.j1 k p q v c a z) (x, n) := by
      intro p q v a ha0 ha1
      obtain ⟨b, e4⟩ := FE.chance_ev c a z 2 hc hb ha0 (by omega) (by omega)
      obtain ⟨v5, e5, _⟩ := FE.next_ev c a z 2 hc hb ha0 (by omega) (by omega)
      by_cases c2 : v = 2
      · have c3 : ¬ v = 3 := by omega
        cases b with
        | true => exact ⟨_, _, Ev.step (f := fun _ => some (p, -1)) (fun k => by simp only [spec_DrawSpans.j1]; rw [if_pos c2, e4, Option.bind_some, if_pos rfl, if_neg c3]) (Ev.now _)⟩
        | false => exact ⟨_, _, Ev.step (f := fun _ => some (p, 9223372036854775807)) (fun k => by simp only [spec_DrawSpans.j1]; rw [if_pos c2, e4, Option.bind_some, if_neg (by simp), if_neg c3]) (Ev.now _)⟩
      · by_cases c3 : v = 3
        · exact ⟨_, _, Ev.step (f := fun _ => some (wrap64 (2560 + v5), 0)) (fun k => by simp only [spec_DrawSpans.j1]; rw [if_neg c2, if_pos c3, e5, Option.bind_some]) (Ev.now _)⟩
        · exact ⟨_, _, Ev.step (f := fun _ => some (p, q)) (fun k => by simp only [spec_DrawSpans.j1]; rw [if_neg c2, if_neg c3]) (Ev.now _)⟩
    have j0 : ∀ (p q v a : Int), 0 ≤ a → a ≤ 1000 → ∃ x n, Ev (fun k => spec_DrawSpans.j0 k p q v c a z) (x, n) := by
      intro p q v a ha0 ha1
      by_cases c1 : v = 1
      · obtain ⟨x, n, hh⟩ := j1 (-1) q v a ha0 ha1
        exact ⟨x, n, Ev.step (fun k => by simp only [spec_DrawSpans.j0]; rw [if_pos c1]) hh⟩
      · obtain ⟨x, n, hh⟩ := j1 p q v a ha0 ha1
        exact ⟨x, n, Ev.step (fun k => by simp only [spec_DrawSpans.j0]; rw [if_neg c1]) hh⟩
    by_cases c0 : v3 = 0
    · obtain ⟨v4, e4, _⟩ := FE.next_ev c (0 + 1 + 1 + 1) z 2 hc hb (by omega) (by omega) (by omega)
      obtain ⟨x, n, hh⟩ := j0 (wrap64 ((wrap64 (2560 - v2)) + v4)) v2 v3 (0 + 1 + 1 + 1 + 1) (by omega) (by omega)
      refine ⟨x, n, Ev.congr (fun k => ?_) hh⟩
      unfold spec_DrawSpans.f
      rw [hs, Option.bind_some]
      simp only
      rw [e1, Option.bind_some]
      simp only
      rw [e2, Option.bind_some]
      simp only
      rw [e3, Option.bind_some, if_pos c0]
      simp only
      rw [e4, Option.bind_some]
    · obtain ⟨x, n, hh⟩ := j0 v1 v2 v3 (0 + 1 + 1 + 1) (by omega) (by omega)
      refine ⟨x, n, Ev.congr (fun k => ?_) hh⟩
      unfold spec_DrawSpans.f
      rw [hs, Option.bind_some]
      simp only
      rw [e1, Option.bind_some]
      simp only
      rw [e2, Option.bind_some]
      simp only
      rw [e3, Option.bind_some, if_neg c0]
  obtain ⟨x, n, hd⟩ := hd
  obtain ⟨r, h1, h2, hg⟩ := SP.spans_good x n
  refine Ev.rounds (Ev.congr (fun k => by unfold laws_FnPieces.f; rw [if_neg h]) ?_)
  refine hd.bind ?_
  refine h1.bind ?_
  refine h2.bind ?_
  by_cases hr : r = []
  · exact Ev.congr (fun k => by rw [if_pos (by rw [hr]; rfl), show ((r.length : Int) == 0) = true from beq_iff_eq.mpr (by rw [hr]; rfl)]) (Ev.now true)
  · obtain ⟨x0, n0, xn, g⟩ := hg hr
    refine Ev.congr (fun k => if_neg (fun e => hr (List.eq_nil_of_length_eq_zero (by omega)))) ?_
    exact SP.walk x n r x0 xn hr r [] 0 [] rfl (by omega) n0 g (by simp) rfl (fun c hcl => by simp at hcl) (fun h => by simp at h) (fun _ => rfl)
end Go.Proofs.Ytmaeofmmainmlaa.Pure
