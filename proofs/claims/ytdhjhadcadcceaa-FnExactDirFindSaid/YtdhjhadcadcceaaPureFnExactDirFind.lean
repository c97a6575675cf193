/- FnExactDirFind: at every list of entries and every name the program's DirFind returns what the reference's returns, and the entries stay as they were. -/
import Derived.Test.YtdhjhadcadcceaaPFnExactDirFindx
import Derived.Test.YtdhjhadcadcceaaHlp2
namespace Go.Proofs.Ytdhjhadcadcceaa.Pure
open Go.RowKit Go.Proofs.Ytdhjhadcadcceaa.PFnExactDirFind Go.Proofs.YtdhjhadcadcceaaW.PrintWords Go.Proofs.YtdhjhadcadcceaaW.PrintLast Go.Proofs.YtdhjhadcadcceaaW.PrintMore Go.Proofs.Ytdhjhadcadcceaa.Hlp
namespace DF
theorem rd105 (l : List S105) (i : Nat) (h : i < l.length) : rd_T105 l (i : Int) = l[i] := by simp [rd_T105, h]
theorem rd106 (l : List S106) (i : Nat) (h : i < l.length) : rd_T106 l (i : Int) = l[i] := by simp [rd_T106, h]
def toE (e : S105) : S106 := ⟨e.f0, e.f1⟩
theorem szE (l : List S105) (hl : l.length ≤ maxLen) (hg : ∀ y ∈ l, (Lit.int .i64 y.f0).wf = true ∧ y.f1.size ≤ maxLen) :
    ∃ r, Ev (fun k => laws_szEntryS.f k l 1048576) r ∧ (r < 0 ∨ (l.length ≤ 1048576 ∧ (l.map (fun e => e.f1.size)).sum ≤ 1048576)) := by
  have hm : maxLen ≤ 9223372036854775807 := by decide
  by_cases c : (wrap64 (1048576 - (l.length : Int))) < 0
  · exact ⟨-1, Ev.congr (fun k => by unfold laws_szEntryS.f; rw [if_pos c]) (Ev.now _), Or.inl (by decide)⟩
  · rw [w64 (by omega) (by omega)] at c
    have hl6 : l.length ≤ 1048576 := by omega
    obtain ⟨r, h, hr⟩ := szG_ev (fun e : S105 => e.f1.size) (L := laws_szEntryS.l0) l (by
      intro i s hi h0 hs
      have hy := (hg l[i] (List.getElem_mem _)).2
      have hw : wrap64 ((i : Int) + 1) = ((i + 1 : Nat) : Int) := by rw [w64 (by omega) (by omega)]; rfl
      by_cases d : (l[i].f1.size : Int) ≤ s
      · refine Or.inr ⟨d, fun r h => Ev.step (fun k => ?_) h⟩
        simp only [laws_szEntryS.l0, laws_szEntry.f]
        rw [if_pos (by omega), if_pos (by omega), rd105 l i hi, w64 (x := s - _) (by omega) (by omega), if_neg (by omega), Option.bind_some, if_neg (by omega), hw]
      · refine Or.inl ⟨-1, by decide, Ev.step (f := fun _ => some (-1)) (fun k => ?_) (Ev.now _)⟩
        simp only [laws_szEntryS.l0, laws_szEntry.f]
        rw [if_pos (by omega), if_pos (by omega), rd105 l i hi, w64 (x := s - _) (by omega) (by omega), if_pos (by omega), Option.bind_some, if_pos (by omega)])
      (fun s => Ev.step (f := fun _ => some s) (fun k => by simp only [laws_szEntryS.l0]; rw [if_neg (by omega)]) (Ev.now _)) (1048576 - (l.length : Int)) (by omega) (by omega)
    refine ⟨r, Ev.congr (fun k => by unfold laws_szEntryS.f; rw [w64 (by omega) (by omega), if_neg (by omega)]) h, ?_⟩
    rcases hr with h | ⟨h1, h2⟩
    · exact Or.inl h
    · exact Or.inr (by omega)
theorem toES (l : List S105) (hl : l.length ≤ 1048576) : Ev (fun k => laws_toEntryS.f k l) (l.map toE) := by
  refine Ev.congr (f := fun k => laws_toEntryS.l0 k l (List.replicate l.length z106) 0) (fun k => by unfold laws_toEntryS.f; rw [if_pos (by omega), if_pos (by simp; omega)]; simp) ?_
  refine fill_ev (L := fun k x i => laws_toEntryS.l0 k l x i) l toE ?_ ?_ _ (by simp)
  · intro i x hi hx r h
    refine Ev.step (fun k => ?_) h
    simp only [laws_toEntryS.l0, laws_toEntry.f]
    rw [if_pos (by omega), if_pos (by omega), Option.bind_some, if_pos (by omega), w64 (by omega) (by omega), rd105 l i hi]
    rfl
  · intro x hx
    exact Ev.step (f := fun _ => some x) (fun k => by simp only [laws_toEntryS.l0]; rw [if_neg (by omega)]) (Ev.now _)
theorem eqES (l : List S106) (hl : l.length ≤ 281474976710656) : Ev (fun k => laws_eqEntryS.f k l l) true := by
  refine Ev.congr (f := fun k => laws_eqEntryS.l0 k l l 0) (fun k => by unfold laws_eqEntryS.f; rw [if_pos rfl]) ?_
  refine eqG_ev (L := laws_eqEntryS.l0) l ?_ ?_
  · intro i hi h
    refine Ev.step (fun k => ?_) h
    simp only [laws_eqEntryS.l0, laws_eqEntry.f]
    rw [if_pos (by omega), if_pos (by omega), if_pos (by omega), w64 (by omega) (by omega)]
    simp
  · exact Ev.step (f := fun _ => some true) (fun k => by simp only [laws_eqEntryS.l0]; rw [if_neg (by omega)]) (Ev.now _)
def up (l : List S106) (a : ByteArray) : Nat → Nat → Int
  | 0, _ => -1
  | d + 1, i => if (rd_T106 l (i : Int)).f1.toList = a.toList then (i : Int) else up l a d (i + 1)
theorem specUp (l : List S106) (a : ByteArray) (hl : l.length ≤ 1048576) (r : Int) : ∀ (i d : Nat), i + d = l.length → up l a l.length 0 = r → Ev (fun k => spec_DirFind.l0 k l a (up l a d i) ((i : Int) - 1)) r := by
  intro i
  induction i with
  | zero =>
    intro d hd hr
    rw [show d = l.length by omega, hr]
    exact Ev.step (f := fun _ => some r) (fun k => by simp only [spec_DirFind.l0]; rw [if_neg (by omega)]) (Ev.now _)
  | succ i ih =>
    intro d hd hr
    have h := ih (d + 1) (by omega) hr
    refine Ev.step (fun k => ?_) h
    have hw : wrap64 (((i + 1 : Nat) : Int) - 1 - 1) = (i : Int) - 1 := by rw [w64 (by omega) (by omega)]; omega
    have he : ((i + 1 : Nat) : Int) - 1 = (i : Int) := by omega
    simp only [spec_DirFind.l0, up]
    rw [if_pos (by omega), if_pos (by omega), if_pos (by omega), hw, he]
    split
    · rfl
    · rfl
theorem implUp (l : List S106) (a : ByteArray) (hl : l.length ≤ 1048576) : ∀ (d i : Nat), i + d = l.length → Ev (fun k => impl_DirFind.l0 k a l (l.length : Int) (i : Int)) (up l a d i) := by
  intro d
  induction d with
  | zero =>
    intro i hi
    exact Ev.step (f := fun _ => some (-1)) (fun k => by simp only [impl_DirFind.l0]; rw [if_neg (by omega)]) (Ev.now _)
  | succ d ih =>
    intro i hi
    have h := ih (i + 1) (by omega)
    have hw : wrap64 ((i : Int) + 1) = ((i + 1 : Nat) : Int) := by rw [w64 (by omega) (by omega)]; rfl
    simp only [up]
    by_cases c : (rd_T106 l (i : Int)).f1.toList = a.toList
    · rw [if_pos c]
      exact Ev.step (f := fun _ => some (i : Int)) (fun k => by simp only [impl_DirFind.l0]; rw [if_pos (by omega), if_pos (by omega), if_pos (by omega), if_pos c]) (Ev.now _)
    · rw [if_neg c]
      exact Ev.step (fun k => by simp only [impl_DirFind.l0]; rw [if_pos (by omega), if_pos (by omega), if_pos (by omega), if_neg c, hw]) h
end DF
theorem FnExactDirFind (l : List S105) (a : ByteArray) (g0 : l.length ≤ maxLen ∧ ∀ y ∈ l, (Lit.int .i64 y.f0).wf = true ∧ y.f1.size ≤ maxLen) (_ : a.size ≤ maxLen) : ∃ k, laws_FnExactDirFind.f k l a = some true := by
  by_cases h : (a.size : Int) > 1048576
  · exact ⟨0, by unfold laws_FnExactDirFind.f; rw [if_pos h]⟩
  obtain ⟨z, hz, hz2⟩ := DF.szE l g0.1 g0.2
  refine Ev.rounds (Ev.congr (fun k => by unfold laws_FnExactDirFind.f; rw [if_neg h]) ?_)
  refine hz.bind ?_
  by_cases c : z < 0
  · exact Ev.congr (fun k => if_pos c) (Ev.now true)
  refine Ev.congr (fun k => if_neg c) ?_
  have hl : l.length ≤ 1048576 := (hz2.resolve_left c).1
  have t := DF.toES l hl
  have hl2 : (l.map DF.toE).length ≤ 1048576 := by simpa using hl
  have s : Ev (fun k => spec_DirFind.f k (l.map DF.toE) a) (DF.up (l.map DF.toE) a (l.map DF.toE).length 0) := by
    have := DF.specUp (l.map DF.toE) a hl2 _ (l.map DF.toE).length 0 (by omega) rfl
    refine Ev.congr (fun k => ?_) this
    unfold spec_DirFind.f
    rw [w64 (by omega) (by omega)]; rfl
  have i : Ev (fun k => impl_DirFind.f k (l.map DF.toE) a) (DF.up (l.map DF.toE) a (l.map DF.toE).length 0) := DF.implUp (l.map DF.toE) a hl2 _ 0 (by omega)
  have e := DF.eqES (l.map DF.toE) (by omega)
  refine t.bind ?_
  refine s.bind ?_
  refine t.bind ?_
  refine i.bind ?_
  refine Ev.congr (fun k => if_pos rfl) ?_
  refine t.bind ?_
  refine e.bind ?_
  exact Ev.congr (fun k => if_pos rfl) (Ev.now true)
end Go.Proofs.Ytdhjhadcadcceaa.Pure
