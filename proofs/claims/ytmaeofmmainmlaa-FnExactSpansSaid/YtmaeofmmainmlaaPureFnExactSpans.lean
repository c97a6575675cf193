/- FnExactSpans: at every two numbers the program's Spans returns what the reference's returns, and the result is the caller's own. -/
import Derived.Test.YtmaeofmmainmlaaPFnExactSpansx3
import Derived.Test.YtmaeofmmainmlaaHlp2
namespace Go.Proofs.Ytmaeofmmainmlaa.Pure
open Go.RowKit Go.Proofs.Ytmaeofmmainmlaa.PFnExactSpans Go.Proofs.YtmaeofmmainmlaaW.PrintWords Go.Proofs.YtmaeofmmainmlaaW.PrintLast Go.Proofs.YtmaeofmmainmlaaW.PrintMore Go.Proofs.Ytmaeofmmainmlaa.Hlp
namespace SP
theorem rd57 (l : List S57) (i : Nat) (h : i < l.length) : rd_T57 l (i : Int) = l[i] := by simp [rd_T57, h]
theorem rd_last (a : List S57) (e : S57) (j : Int) (h : j = a.length) : rd_T57 (a ++ [e]) j = e := by
  subst h; rw [rd57 _ a.length (by simp)]; simp
theorem set_last (a : List S57) (e f : S57) (j : Int) (h : j = a.length) : (a ++ [e]).set j.toNat f = a ++ [f] := by
  subst h; simp
/-- The reference's steps within one block. -/
theorem within (x n : Int) (acc : List S57) (b o s : Int) (hx : 0 ≤ x) (hn : x + n ≤ 2560) (hs : 0 ≤ s) (hb : b * 64 + o = x + s) (ho : 0 ≤ o) (r : List S57) (hl : acc.length ≤ 2560) :
    ∀ d : Nat, ∀ c : Int, 1 ≤ c → o + c + d ≤ 64 → s + c + d ≤ n → Ev (fun k => spec_Spans.l0 k x n (acc ++ [⟨b, o, c + d, s⟩]) (s + c + d)) r → Ev (fun k => spec_Spans.l0 k x n (acc ++ [⟨b, o, c, s⟩]) (s + c)) r := by
  intro d
  induction d with
  | zero => intro c _ _ _ h; simpa using h
  | succ d ih =>
    intro c h1 h2 h3 h
    have h' := ih (c + 1) (by omega) (by omega) (by omega) (by
      rw [show c + 1 + (d : Int) = c + ((d + 1 : Nat) : Int) by omega, show s + (c + 1) + (d : Int) = s + c + ((d + 1 : Nat) : Int) by omega]; exact h)
    refine Ev.step (fun k => ?_) h'
    have e1 : ((acc ++ [(⟨b, o, c, s⟩ : S57)]).length : Int) = acc.length + 1 := by simp
    have e2 : wrap64 ((acc.length : Int) + 1 - 1) = acc.length := by rw [w64 (by omega) (by omega)]; omega
    have e3 : wrap64 (Int.tdiv (wrap64 (x + (s + c))) 64) = b := by
      rw [w64 (x := x + (s + c)) (by omega) (by omega), Int.tdiv_eq_ediv_of_nonneg (by omega), w64 (by omega) (by omega)]; omega
    simp only [spec_Spans.l0]
    rw [if_pos (by omega), e1, e2, if_pos (by omega), if_pos (by omega), if_pos (by omega), rd_last _ _ _ rfl, e3, if_pos rfl, set_last _ _ _ _ rfl]
    simp only
    rw [w64 (x := c + 1) (by omega) (by omega), w64 (by omega) (by omega), show s + c + 1 = s + (c + 1) by omega]
theorem outer (x n : Int) (hx : 0 ≤ x) (hn : x + n ≤ 2560) (m : Nat) : ∀ (acc : List S57) (s : Int), 0 ≤ s → s + m = n → acc.length ≤ s → (s < n → ∀ e, acc.getLast? = some e → e.f0 < (x + s) / 64) →
    ∃ r, Ev (fun k => impl_Spans.l0 k x n acc s) r ∧ Ev (fun k => spec_Spans.l0 k x n acc s) r ∧ r.length ≤ 2560 := by
  induction m using Nat.strongRecOn with
  | _ m ih =>
    intro acc s h0 hm hl hlast
    by_cases c : s < n
    rotate_left
    · exact ⟨acc, Ev.step (f := fun _ => some acc) (fun k => by simp only [impl_Spans.l0]; rw [if_neg c]) (Ev.now _), Ev.step (f := fun _ => some acc) (fun k => by simp only [spec_Spans.l0]; rw [if_neg c]) (Ev.now _), by omega⟩
    have hw : wrap64 (x + s) = x + s := w64 (by omega) (by omega)
    have hd : wrap64 (Int.tdiv (x + s) 64) = (x + s) / 64 := by rw [Int.tdiv_eq_ediv_of_nonneg (by omega), w64 (by omega) (by omega)]
    have hm' : Int.tmod (x + s) 64 = (x + s) % 64 := Int.tmod_eq_emod_of_nonneg (by omega)
    obtain ⟨q, hq⟩ : ∃ q : Int, q = mn (wrap64 (64 - (x + s) % 64)) (wrap64 (n - s)) := ⟨_, rfl⟩
    have hq2 : 1 ≤ q ∧ (x + s) % 64 + q ≤ 64 ∧ s + q ≤ n ∧ (s + q < n → (x + s) % 64 + q = 64) := by
      rw [w64 (by omega) (by omega), w64 (by omega) (by omega)] at hq
      unfold mn at hq
      split at hq <;> omega
    obtain ⟨r, h1, h2, h3⟩ := ih (m - q.toNat) (by omega) (acc ++ [⟨(x + s) / 64, (x + s) % 64, q, s⟩]) (s + q) (by omega) (by omega) (by simp; omega) (fun hlt e he => by
      have : e = ⟨(x + s) / 64, (x + s) % 64, q, s⟩ := by simpa using he.symm
      subst this
      have := hq2.2.2.2 hlt
      simp only
      omega)
    refine ⟨r, ?_, ?_, h3⟩
    · refine Ev.step (fun k => ?_) h1
      simp only [impl_Spans.l0]
      rw [if_pos c, if_pos (by omega), hw, hd, hm', ← hq, w64 (by omega) (by omega)]
    · have w := within x n acc ((x + s) / 64) ((x + s) % 64) s hx hn h0 (by omega) (by omega) r (by omega) (q - 1).toNat 1 (by omega) (by omega) (by omega) (by
        rw [show (1 : Int) + ((q - 1).toNat : Int) = q by omega, show s + 1 + ((q - 1).toNat : Int) = s + q by omega]; exact h2)
      refine Ev.step (fun k => ?_) w
      have hw1 : wrap64 (s + 1) = s + 1 := w64 (by omega) (by omega)
      simp only [spec_Spans.l0]
      rw [if_pos c]
      by_cases z : (acc.length : Int) > 0
      · have hn1 : wrap64 ((acc.length : Int) - 1) = (acc.length : Int) - 1 := w64 (by omega) (by omega)
        have hne : acc ≠ [] := fun h => by rw [h] at z; simp at z
        have hg : rd_T57 acc ((acc.length : Int) - 1) = acc.getLast hne := by
          rw [show (acc.length : Int) - 1 = ((acc.length - 1 : Nat) : Int) by omega, rd57 _ _ (by omega), List.getLast_eq_getElem]
        have hlt := hlast c _ (List.getLast?_eq_some_getLast hne)
        rw [if_pos z, hn1, if_pos (by omega), if_pos (by omega), hg, hw, hd, hm', if_neg (by omega), if_pos (by omega), hw1]
      · rw [if_neg z, hw, hd, hm', if_pos (by omega), hw1]
theorem both (x n : Int) : ∃ r, Ev (fun k => impl_Spans.f k x n) r ∧ Ev (fun k => spec_Spans.f k x n) r ∧ r.length ≤ 2560 := by
  have st : Ev (fun k => spec_Spans.j0 k x n [] true) [] := Ev.step (f := fun _ => some []) (fun k => by simp only [spec_Spans.j0]; rw [if_pos trivial]) (Ev.now _)
  have it : Ev (fun k => impl_Spans.j0 k x n true) [] := Ev.step (f := fun _ => some []) (fun k => by simp only [impl_Spans.j0]; rw [if_pos trivial]) (Ev.now _)
  by_cases c1 : x < 0
  · exact ⟨[], Ev.congr (fun k => by unfold impl_Spans.f; rw [if_pos c1]) it, Ev.congr (fun k => by unfold spec_Spans.f; rw [Option.bind_some, if_pos c1]) st, by simp⟩
  by_cases c2 : n < 0
  · exact ⟨[], Ev.congr (fun k => by unfold impl_Spans.f; rw [if_neg c1, if_pos c2]) it, Ev.congr (fun k => by unfold spec_Spans.f; rw [Option.bind_some, if_neg c1, if_pos c2]) st, by simp⟩
  by_cases c3 : x > 2560
  · exact ⟨[], Ev.congr (fun k => by unfold impl_Spans.f; rw [if_neg c1, if_neg c2, if_pos c3]) it, Ev.congr (fun k => by unfold spec_Spans.f; rw [Option.bind_some, if_neg c1, if_neg c2, if_pos c3]) st, by simp⟩
  have hw : wrap64 (2560 - x) = 2560 - x := w64 (by omega) (by omega)
  by_cases c4 : n > 2560 - x
  · refine ⟨[], ?_, Ev.congr (fun k => by unfold spec_Spans.f; rw [Option.bind_some, if_neg c1, if_neg c2, if_neg c3, hw, decide_eq_true c4]) st, by simp⟩
    by_cases c5 : n > 2560
    · exact Ev.congr (fun k => by unfold impl_Spans.f; rw [if_neg c1, if_neg c2, if_neg c3, if_pos c5]) it
    · exact Ev.congr (fun k => by unfold impl_Spans.f; rw [if_neg c1, if_neg c2, if_neg c3, if_neg c5, w64 (by omega) (by omega), decide_eq_true (by omega)]) it
  · obtain ⟨r, h1, h2, h3⟩ := outer x n (by omega) (by omega) n.toNat [] 0 (by omega) (by omega) (by simp) (fun _ e he => by cases he)
    refine ⟨r, ?_, ?_, h3⟩
    · refine Ev.congr (fun k => by unfold impl_Spans.f; rw [if_neg c1, if_neg c2, if_neg c3, if_neg (by omega), w64 (by omega) (by omega), decide_eq_false (by omega)]) ?_
      exact Ev.step (fun k => by simp only [impl_Spans.j0]; rw [if_neg (by decide)]) h1
    · refine Ev.congr (fun k => by unfold spec_Spans.f; rw [Option.bind_some, if_neg c1, if_neg c2, if_neg c3, hw, decide_eq_false c4]) ?_
      exact Ev.step (fun k => by simp only [spec_Spans.j0]; rw [if_neg (by decide)]) h2
theorem eqSp (l : List S57) (hl : l.length ≤ 2560) : Ev (fun k => laws_eqSpanS.f k l l) true := by
  refine Ev.congr (f := fun k => laws_eqSpanS.l0 k l l 0) (fun k => by unfold laws_eqSpanS.f; rw [if_pos rfl]) ?_
  refine eqG_ev (L := laws_eqSpanS.l0) l ?_ ?_
  · intro i hi h
    refine Ev.step (fun k => ?_) h
    simp only [laws_eqSpanS.l0, laws_eqSpan.f]
    rw [if_pos (by omega), if_pos (by omega), if_pos (by omega), w64 (by omega) (by omega)]
    simp
  · exact Ev.step (f := fun _ => some true) (fun k => by simp only [laws_eqSpanS.l0]; rw [if_neg (by omega)]) (Ev.now _)
def mkS (_ : S57) (s : Int) : S57 := ⟨s, s + 1, s + 2, s + 3⟩
theorem markSp (l : List S57) (hl : l.length ≤ 2560) : Ev (fun k => laws_markSpanS.f k l 1) (1 + (4 * l.length : Nat), marksG mkS 4 1 l) := by
  refine markG_ev mkS 4 (L := laws_markSpanS.l0) 4194304 ?_ ?_ l 1 (by omega) (by omega) (by omega)
  · intro i x s hi hx h0 hs r h
    have hw : wrap64 ((i : Int) + 1) = ((i + 1 : Nat) : Int) := by rw [w64 (by omega) (by omega)]; rfl
    have h1 : wrap64 (s + 1) = s + 1 := w64 (by omega) (by omega)
    have h2 : wrap64 (s + 1 + 1) = s + 2 := by rw [w64 (by omega) (by omega)]; omega
    have h3 : wrap64 (s + 2 + 1) = s + 3 := by rw [w64 (by omega) (by omega)]; omega
    have h4 : wrap64 (s + 3 + 1) = s + ((4 : Nat) : Int) := by rw [w64 (by omega) (by omega)]; omega
    refine Ev.step (fun k => ?_) h
    simp only [laws_markSpanS.l0, Option.bind_some]
    rw [if_pos (by omega), if_pos (by omega), hw, h1, h2, h3, h4, Int.toNat_natCast]
    have q : ∀ (y : List S57) (e : S57), i < y.length → rd_T57 (y.set i e) (i : Int) = e := fun y e hy => by
      rw [rd57 _ i (by simpa using hy), List.getElem_set]; simp
    simp only [List.set_set, q x _ hi]
    rfl
  · intro x s
    exact Ev.step (f := fun _ => some (s, x)) (fun k => by simp only [laws_markSpanS.l0]; rw [if_neg (by omega)]) (Ev.now _)
theorem heldSp (l : List S57) (hl : l.length ≤ 2560) : Ev (fun k => laws_heldSpanS.f k (marksG mkS 4 1 l) 1) (1 + (4 * l.length : Nat)) := by
  refine heldG_ev mkS 4 (L := laws_heldSpanS.l0) 4194304 ?_ ?_ l 1 (by omega) (by omega) (by omega)
  · intro i x s b hi hxi hx h0 hs r h
    have hw : wrap64 ((i : Int) + 1) = ((i + 1 : Nat) : Int) := by rw [w64 (by omega) (by omega)]; rfl
    have h1 : wrap64 (s + 1) = s + 1 := w64 (by omega) (by omega)
    have h2 : wrap64 (s + 1 + 1) = s + 2 := by rw [w64 (by omega) (by omega)]; omega
    have h3 : wrap64 (s + 2 + 1) = s + 3 := by rw [w64 (by omega) (by omega)]; omega
    have h4 : wrap64 (s + 3 + 1) = s + ((4 : Nat) : Int) := by rw [w64 (by omega) (by omega)]; omega
    refine Ev.step (fun k => ?_) h
    simp only [laws_heldSpanS.l0]
    rw [if_pos (by omega), if_pos (by omega), rd57 x i hi, hxi, hw, h1, h2, h3, h4]
    simp [mkS]
  · intro x s
    exact Ev.step (f := fun _ => some s) (fun k => by simp only [laws_heldSpanS.l0]; rw [if_neg (by omega)]) (Ev.now _)
end SP
theorem FnExactSpans : laws_FnExactSpans.Pure := by
  intro a b _ _
  obtain ⟨r, i, s, hr⟩ := SP.both a b
  have e := SP.eqSp r hr
  have m := SP.markSp r hr
  have hd := SP.heldSp r hr
  refine Ev.rounds (Ev.congr (fun k => by unfold laws_FnExactSpans.f; rfl) ?_)
  refine s.bind ?_
  refine i.bind ?_
  refine e.bind ?_
  refine Ev.congr (fun k => if_pos rfl) ?_
  refine m.bind ?_
  refine hd.bind ?_
  refine Ev.congr (fun k => if_neg (by omega)) ?_
  refine Ev.congr (fun k => if_pos rfl) ?_
  refine i.bind ?_
  refine e.bind ?_
  refine Ev.congr (fun k => if_pos rfl) ?_
  refine hd.bind ?_
  refine Ev.congr (fun k => if_neg (by omega)) ?_
  exact Ev.congr (fun k => if_pos rfl) (Ev.now true)
end Go.Proofs.Ytmaeofmmainmlaa.Pure
