/- FnExactDirRemove: at every list of entries and every number the program's DirRemove returns what the reference's returns; the entries stay as they were and the result is the caller's own. -/
import Derived.Test.YtdhjhadcadcceaaPFnExactDirRemovex
import Derived.Test.YtdhjhadcadcceaaHlp2
namespace Go.Proofs.Ytdhjhadcadcceaa.Pure
open Go.RowKit Go.Proofs.Ytdhjhadcadcceaa.PFnExactDirRemove Go.Proofs.YtdhjhadcadcceaaW.PrintWords Go.Proofs.YtdhjhadcadcceaaW.PrintLast Go.Proofs.YtdhjhadcadcceaaW.PrintMore Go.Proofs.Ytdhjhadcadcceaa.Hlp
namespace DR
theorem rd105 (l : List S105) (i : Nat) (h : i < l.length) : rd_T105 l (i : Int) = l[i] := by simp [rd_T105, h]
theorem rd106 (l : List S106) (i : Nat) (h : i < l.length) : rd_T106 l (i : Int) = l[i] := by simp [rd_T106, h]
def toE (e : S105) : S106 := ⟨e.f0, e.f1⟩
theorem szE (l : List S105) (hl : l.length ≤ maxLen) (hg : ∀ y ∈ l, (Lit.int .i64 y.f0).wf = true ∧ y.f1.size ≤ maxLen) :
    ∃ r, Ev (fun k => laws_szEntryS.f k l 1048576) r ∧ (r < 0 ∨ (l.length ≤ 1048576 ∧ (l.map (fun e => e.f1.size)).sum ≤ 1048576)) := by
  have hm : maxLen ≤ 9223372036854775807 := by decide
  by_cases c : (wrap64 (1048576 - (l.length : Int))) < 0
  · exact ⟨-1, Ev.congr (fun k => by unfold laws_szEntryS.f; rw [if_pos c]) (Ev.now _), Or.inl (by decide)⟩
  · rw [w64 (by omega) (by omega)] at c
    have hl6 : l.length ≤ 1048576 := by omega
    obtain ⟨r, h, hr⟩ := szG_ev (fun e : S105 => e.f1.size) (L := laws_szEntryS.l0) l (by
      intro i s hi h0 hs
      have hy := (hg l[i] (List.getElem_mem _)).2
      have hw : wrap64 ((i : Int) + 1) = ((i + 1 : Nat) : Int) := by rw [w64 (by omega) (by omega)]; rfl
      by_cases d : (l[i].f1.size : Int) ≤ s
      · refine Or.inr ⟨d, fun r h => Ev.step (fun k => ?_) h⟩
        simp only [laws_szEntryS.l0, laws_szEntry.f]
        rw [if_pos (by omega), if_pos (by omega), rd105 l i hi, w64 (x := s - _) (by omega) (by omega), if_neg (by omega), Option.bind_some, if_neg (by omega), hw]
      · refine Or.inl ⟨-1, by decide, Ev.step (f := fun _ => some (-1)) (fun k => ?_) (Ev.now _)⟩
        simp only [laws_szEntryS.l0, laws_szEntry.f]
        rw [if_pos (by omega), if_pos (by omega), rd105 l i hi, w64 (x := s - _) (by omega) (by omega), if_pos (by omega), Option.bind_some, if_pos (by omega)])
      (fun s => Ev.step (f := fun _ => some s) (fun k => by simp only [laws_szEntryS.l0]; rw [if_neg (by omega)]) (Ev.now _)) (1048576 - (l.length : Int)) (by omega) (by omega)
    refine ⟨r, Ev.congr (fun k => by unfold laws_szEntryS.f; rw [w64 (by omega) (by omega), if_neg (by omega)]) h, ?_⟩
    rcases hr with h | ⟨h1, h2⟩
    · exact Or.inl h
    · exact Or.inr (by omega)
theorem toES (l : List S105) (hl : l.length ≤ 1048576) : Ev (fun k => laws_toEntryS.f k l) (l.map toE) := by
  refine Ev.congr (f := fun k => laws_toEntryS.l0 k l (List.replicate l.length z106) 0) (fun k => by unfold laws_toEntryS.f; rw [if_pos (by omega), if_pos (by simp; omega)]; simp) ?_
  refine fill_ev (L := fun k x i => laws_toEntryS.l0 k l x i) l toE ?_ ?_ _ (by simp)
  · intro i x hi hx r h
    refine Ev.step (fun k => ?_) h
    simp only [laws_toEntryS.l0, laws_toEntry.f]
    rw [if_pos (by omega), if_pos (by omega), Option.bind_some, if_pos (by omega), w64 (by omega) (by omega), rd105 l i hi]
    rfl
  · intro x hx
    exact Ev.step (f := fun _ => some x) (fun k => by simp only [laws_toEntryS.l0]; rw [if_neg (by omega)]) (Ev.now _)
theorem eqES (l : List S106) (hl : l.length ≤ 281474976710656) : Ev (fun k => laws_eqEntryS.f k l l) true := by
  refine Ev.congr (f := fun k => laws_eqEntryS.l0 k l l 0) (fun k => by unfold laws_eqEntryS.f; rw [if_pos rfl]) ?_
  refine eqG_ev (L := laws_eqEntryS.l0) l ?_ ?_
  · intro i hi h
    refine Ev.step (fun k => ?_) h
    simp only [laws_eqEntryS.l0, laws_eqEntry.f]
    rw [if_pos (by omega), if_pos (by omega), if_pos (by omega), w64 (by omega) (by omega)]
    simp
  · exact Ev.step (f := fun _ => some true) (fun k => by simp only [laws_eqEntryS.l0]; rw [if_neg (by omega)]) (Ev.now _)
theorem text_loop (n : Nat) : ∀ (x : Int) (s : ByteArray), 0 ≤ x → x ≤ n → x + s.size ≤ 4611686018427387904 → ∃ r, Ev (fun k => laws_markText.l0 k x s) r := by
  induction n with
  | zero =>
    intro x s h0 h1 h2
    exact ⟨_, Ev.step (f := fun _ => some ((⟨#[109]⟩ : ByteArray) ++ s)) (fun k => by simp only [laws_markText.l0]; rw [if_neg (by omega), if_pos (by omega)]) (Ev.now _)⟩
  | succ n ih =>
    intro x s h0 h1 h2
    by_cases c : x > 0
    · have ht : Int.tdiv x 10 = x / 10 := Int.tdiv_eq_ediv_of_nonneg h0
      have hs : ∀ l : List Int, l.length = 1 → ((strOfNums l) ++ s).size = 1 + s.size := fun l hl => by rw [ByteArray.size_append, strOfNums_size, hl]
      obtain ⟨r, h⟩ := ih (x / 10) ((strOfNums [(wrap64 (48 + (Int.tmod x 10))) % 256]) ++ s) (by omega) (by omega) (by rw [hs _ rfl]; omega)
      exact ⟨r, Ev.step (fun k => by simp only [laws_markText.l0, Option.bind_some]; rw [if_pos c, if_pos (by rw [strOfNums_size]; simp only [List.length_cons, List.length_nil]; omega), ht, w64 (x := x / 10) (by omega) (by omega)]) h⟩
    · exact ⟨_, Ev.step (f := fun _ => some ((⟨#[109]⟩ : ByteArray) ++ s)) (fun k => by simp only [laws_markText.l0]; rw [if_neg c, if_pos (by omega)]) (Ev.now _)⟩
theorem text_some (n : Int) (h : n ≤ 4611686018427387904) : ∃ r, Ev (fun k => laws_markText.f k n) r := by
  by_cases c : n ≤ 0
  · exact ⟨_, Ev.congr (fun k => by unfold laws_markText.f; rw [if_pos c]) (Ev.now (⟨#[109, 48]⟩ : ByteArray))⟩
  · obtain ⟨r, h⟩ := text_loop n.toNat n ⟨#[]⟩ (by omega) (by omega) (by simp [ByteArray.size]; omega)
    exact ⟨r, Ev.congr (fun k => by unfold laws_markText.f; rw [if_neg c]) h⟩
open Classical in
noncomputable def textOf (n : Int) : ByteArray := if h : ∃ t, Ev (fun k => laws_markText.f k n) t then Classical.choose h else ⟨#[]⟩
theorem text_ev (n : Int) (h : n ≤ 4611686018427387904) : Ev (fun k => laws_markText.f k n) (textOf n) := by
  have := text_some n h
  unfold textOf; rw [dif_pos this]; exact Classical.choose_spec this
noncomputable def mkE (_ : S106) (s : Int) : S106 := ⟨s, textOf (s + 1)⟩
theorem markES (l : List S106) (s : Int) (h0 : 0 ≤ s) (hl : l.length ≤ 1048576) (hb : s + (2 * l.length : Nat) ≤ 4194304) : Ev (fun k => laws_markEntryS.f k l s) (s + (2 * l.length : Nat), marksG mkE 2 s l) := by
  refine markG_ev mkE 2 (L := laws_markEntryS.l0) 4194304 ?_ ?_ l s h0 (by omega) hb
  · intro i x s hi hx h0 hs r h
    have hw : wrap64 ((i : Int) + 1) = ((i + 1 : Nat) : Int) := by rw [w64 (by omega) (by omega)]; rfl
    have hs2 : wrap64 (s + 1) = s + 1 := w64 (by omega) (by omega)
    have hs3 : wrap64 (s + 1 + 1) = s + ((2 : Nat) : Int) := by rw [w64 (by omega) (by omega)]; omega
    refine Ev.step (f := fun k => (laws_markText.f k (s + 1)).bind fun t => laws_markEntryS.l0 k (x.set i (⟨s, t⟩ : S106)) (s + ((2 : Nat) : Int)) ((i + 1 : Nat) : Int)) (fun k => ?_) ?_
    · simp only [laws_markEntryS.l0, Option.bind_some]
      rw [if_pos (by omega), if_pos (by omega), hw, hs2, hs3]
      congr 1
      funext t
      rw [Int.toNat_natCast, List.set_set, rd106 _ i (by simpa using hi), List.getElem_set]
      simp
    · exact (text_ev (s + 1) (by omega)).bind h
  · intro x s
    exact Ev.step (f := fun _ => some (s, x)) (fun k => by simp only [laws_markEntryS.l0]; rw [if_neg (by omega)]) (Ev.now _)
theorem heldES (l : List S106) (s : Int) (h0 : 0 ≤ s) (hl : l.length ≤ 1048576) (hb : s + (2 * l.length : Nat) ≤ 4194304) : Ev (fun k => laws_heldEntryS.f k (marksG mkE 2 s l) s) (s + (2 * l.length : Nat)) := by
  refine heldG_ev mkE 2 (L := laws_heldEntryS.l0) 4194304 ?_ ?_ l s h0 (by omega) hb
  · intro i x s b hi hxi hx h0 hs r h
    have hw : wrap64 ((i : Int) + 1) = ((i + 1 : Nat) : Int) := by rw [w64 (by omega) (by omega)]; rfl
    have hs2 : wrap64 (s + 1) = s + 1 := w64 (by omega) (by omega)
    have hs3 : wrap64 (s + 1 + 1) = s + ((2 : Nat) : Int) := by rw [w64 (by omega) (by omega)]; omega
    refine Ev.step (f := fun k => (laws_markText.f k (s + 1)).bind fun t => if (textOf (s + 1)).toList = t.toList then laws_heldEntryS.l0 k x (s + ((2 : Nat) : Int)) ((i + 1 : Nat) : Int) else some (-1)) (fun k => ?_) ?_
    · simp only [laws_heldEntryS.l0]
      rw [if_pos (by omega), if_pos (by omega), rd106 x i hi, hxi, hw, hs2, hs3]
      exact if_pos rfl
    · refine (text_ev (s + 1) (by omega)).bind ?_
      exact Ev.congr (fun k => if_pos rfl) h
  · intro x s
    exact Ev.step (f := fun _ => some s) (fun k => by simp only [laws_heldEntryS.l0]; rw [if_neg (by omega)]) (Ev.now _)
/-- The entries without the one at a. -/
def cutE (l : List S106) (a : Int) : List S106 := if 0 ≤ a ∧ a < l.length then (l.set a.toNat (rd_T106 l ((l.length : Int) - 1))).take (l.length - 1) else l
theorem cut_len (l : List S106) (a : Int) : (cutE l a).length ≤ l.length := by
  unfold cutE; split
  · rw [List.length_take, List.length_set]; omega
  · exact Nat.le_refl _
theorem spec_all (l : List S106) (a : Int) (hl : l.length ≤ 1048576) (ha : ¬ (0 ≤ a ∧ a < l.length)) : Ev (fun k => spec_DirRemove.l0 k l a (l.length : Int) [] 0) l := by
  have := down (P := fun i => Ev (fun k => spec_DirRemove.l0 k l a (l.length : Int) (l.take i) (i : Int)) l) l.length ?_ ?_
  · simpa using this
  · rw [List.take_length]
    exact Ev.step (f := fun _ => some l) (fun k => by simp only [spec_DirRemove.l0]; rw [if_neg (by omega)]) (Ev.now _)
  · intro i hi h
    have hw : wrap64 ((i : Int) + 1) = ((i + 1 : Nat) : Int) := by rw [w64 (by omega) (by omega)]; rfl
    rw [List.take_succ_eq_append_getElem hi] at h
    refine Ev.step (f := fun k => spec_DirRemove.j1 k l a (l.length : Int) (l.take i) (i : Int) true) (fun k => ?_) ?_
    · simp only [spec_DirRemove.l0]
      rw [if_pos (by omega)]
      by_cases c : a < 0
      · rw [if_pos c]
      · rw [if_neg c, decide_eq_true (by omega)]
    · refine Ev.step (fun k => ?_) h
      simp only [spec_DirRemove.j1]
      rw [if_pos trivial, if_pos (by omega), if_pos (by omega), if_pos (by rw [List.length_take]; omega), rd106 l i hi, hw]
theorem spec_cut (l : List S106) (a : Int) (hl : l.length ≤ 1048576) (h0 : 0 ≤ a) (h1 : a < l.length) :
    Ev (fun k => spec_DirRemove.l0 k l a (l.length : Int) [] 0) ((l.set a.toNat (rd_T106 l ((l.length : Int) - 1))).take (l.length - 1)) := by
  have hn : wrap64 ((l.length : Int) - 1) = (l.length : Int) - 1 := w64 (by omega) (by omega)
  generalize ht : (l.set a.toNat (rd_T106 l ((l.length : Int) - 1))) = t
  have tl : t.length = l.length := by rw [← ht, List.length_set]
  have := down (P := fun i => Ev (fun k => spec_DirRemove.l0 k l a (l.length : Int) (t.take i) (i : Int)) (t.take (l.length - 1))) (l.length - 1) ?_ ?_
  · simpa using this
  · have hw : wrap64 (((l.length - 1 : Nat) : Int) + 1) = (l.length : Int) := by rw [w64 (by omega) (by omega)]; omega
    refine Ev.step (f := fun k => spec_DirRemove.j1 k l a (l.length : Int) (t.take (l.length - 1)) ((l.length - 1 : Nat) : Int) false) (fun k => ?_) ?_
    · simp only [spec_DirRemove.l0]
      rw [if_pos (by omega), if_neg (by omega), decide_eq_false (by omega)]
    · refine Ev.step (f := fun k => spec_DirRemove.l0 k l a (l.length : Int) (t.take (l.length - 1)) (l.length : Int)) (fun k => ?_) ?_
      · simp only [spec_DirRemove.j1]
        rw [if_neg (by decide), hn, if_pos (by omega), hw]
      · exact Ev.step (f := fun _ => some (t.take (l.length - 1))) (fun k => by simp only [spec_DirRemove.l0]; rw [if_neg (by omega)]) (Ev.now _)
  · intro i hi h
    have hw : wrap64 ((i : Int) + 1) = ((i + 1 : Nat) : Int) := by rw [w64 (by omega) (by omega)]; rfl
    rw [List.take_succ_eq_append_getElem (by omega)] at h
    refine Ev.step (f := fun k => spec_DirRemove.j1 k l a (l.length : Int) (t.take i) (i : Int) false) (fun k => ?_) ?_
    · simp only [spec_DirRemove.l0]
      rw [if_pos (by omega), if_neg (by omega), decide_eq_false (by omega)]
    · refine Ev.step (fun k => ?_) h
      simp only [spec_DirRemove.j1]
      rw [if_neg (by decide), hn, if_neg (by omega)]
      by_cases c : (i : Int) = a
      · rw [if_pos c, if_pos (by omega), if_pos (by omega), if_pos (by rw [List.length_take]; omega), hw]
        have e : t[i] = rd_T106 l ((l.length : Int) - 1) := by
          subst ht; rw [List.getElem_set, if_pos (by omega)]
        rw [e]
      · rw [if_neg c, if_pos (by omega), if_pos (by omega), if_pos (by rw [List.length_take]; omega), hw, rd106 l i (by omega)]
        have e : t[i] = l[i]'(by omega) := by
          subst ht; rw [List.getElem_set, if_neg (by omega)]
        rw [e]
theorem spec_ev (l : List S106) (a : Int) (hl : l.length ≤ 1048576) : Ev (fun k => spec_DirRemove.f k l a) (cutE l a) := by
  unfold cutE spec_DirRemove.f
  split
  · rename_i h; exact spec_cut l a hl h.1 h.2
  · rename_i h; exact spec_all l a hl h
theorem impl_is (l : List S106) (a : Int) (hl : l.length ≤ 1048576) : impl_DirRemove.f l a = some (cutE l a) := by
  unfold impl_DirRemove.f cutE
  have hn : wrap64 ((l.length : Int) - 1) = (l.length : Int) - 1 := w64 (by omega) (by omega)
  simp only [Option.bind_some, List.nil_append]
  rw [if_pos (by simp; omega)]
  by_cases c : a < 0
  · rw [if_pos c, if_neg (by omega)]
  · by_cases d : a ≥ (l.length : Int)
    · rw [if_neg c, if_pos d, if_neg (by omega)]
    · rw [if_neg c, if_neg d, hn, if_pos (by omega), if_pos (by omega), if_pos (by omega), if_pos (by omega), if_pos (by omega), if_pos (by omega)]
      rw [show ((l.length : Int) - 1).toNat = l.length - 1 by omega]
end DR
theorem FnExactDirRemove (l : List S105) (a : Int) (g0 : l.length ≤ maxLen ∧ ∀ y ∈ l, (Lit.int .i64 y.f0).wf = true ∧ y.f1.size ≤ maxLen) (_ : (Lit.int .i64 a).wf = true) : ∃ k, laws_FnExactDirRemove.f k l a = some true := by
  obtain ⟨z, hz, hz2⟩ := DR.szE l g0.1 g0.2
  refine Ev.rounds (Ev.congr (fun k => by unfold laws_FnExactDirRemove.f; rfl) ?_)
  refine hz.bind ?_
  by_cases c : z < 0
  · exact Ev.congr (fun k => if_pos c) (Ev.now true)
  refine Ev.congr (fun k => if_neg c) ?_
  have hl : l.length ≤ 1048576 := (hz2.resolve_left c).1
  have t := DR.toES l hl
  have hl2 : (l.map DR.toE).length ≤ 1048576 := by simpa using hl
  have et := DR.eqES (l.map DR.toE) (by omega)
  have mt := DR.markES (l.map DR.toE) 1 (by omega) hl2 (by omega)
  have s := DR.spec_ev (l.map DR.toE) a hl2
  have i := DR.impl_is (l.map DR.toE) a hl2
  have hr := DR.cut_len (l.map DR.toE) a
  generalize DR.cutE (l.map DR.toE) a = r at s i hr
  have e := DR.eqES r (by omega)
  have m := DR.markES r 1 (by omega) (by omega) (by omega)
  have hd := DR.heldES r 1 (by omega) (by omega) (by omega)
  refine t.bind ?_
  refine s.bind ?_
  refine t.bind ?_
  refine Ev.congr (fun k => by rw [i, Option.bind_some]) ?_
  refine e.bind ?_
  refine Ev.congr (fun k => if_pos rfl) ?_
  refine t.bind ?_
  refine et.bind ?_
  refine Ev.congr (fun k => if_pos rfl) ?_
  refine mt.bind ?_
  refine Ev.congr (fun k => if_neg (by simp only; omega)) ?_
  refine e.bind ?_
  refine Ev.step (fun k => by simp only [laws_FnExactDirRemove.j0]; rw [if_neg (by decide)]) ?_
  refine m.bind ?_
  refine hd.bind ?_
  refine Ev.congr (fun k => if_neg (by omega)) ?_
  refine Ev.congr (fun k => if_pos rfl) ?_
  refine t.bind ?_
  refine Ev.congr (fun k => by rw [i, Option.bind_some]) ?_
  refine e.bind ?_
  refine Ev.congr (fun k => if_pos rfl) ?_
  refine hd.bind ?_
  refine Ev.congr (fun k => if_neg (by omega)) ?_
  exact Ev.congr (fun k => if_pos rfl) (Ev.now true)
end Go.Proofs.Ytdhjhadcadcceaa.Pure
