/- FnExactFileNeed: at every list of numbers the program's FileNeed returns what the reference's returns, and the numbers stay as they were. -/
import Derived.Test.YtdkjidnagkcenaaPFnExactFileNeedx
import Derived.Test.YtdkjidnagkcenaaHlp
namespace Go.Proofs.Ytdkjidnagkcenaa.Pure
open Go.RowKit Go.Proofs.Ytdkjidnagkcenaa.PFnExactFileNeed Go.Proofs.YtdkjidnagkcenaaW.PrintWords Go.Proofs.YtdkjidnagkcenaaW.PrintLast Go.Proofs.YtdkjidnagkcenaaW.PrintMore Go.Proofs.Ytdkjidnagkcenaa.Hlp
namespace FN
theorem l1_some (x : List Bool) (hx : x.length = 40) (d : Nat) : ∀ (i : Nat) (n f : Int), i + d = 40 → ∃ r, Ev (fun k => spec_FileNeed.l1 k x n f (i : Int)) r := by
  induction d with
  | zero =>
    intro i n f hi
    exact ⟨_, Ev.step (f := fun _ => some (wrap64 (n + f))) (fun k => by simp only [spec_FileNeed.l1]; rw [if_neg (by omega)]) (Ev.now _)⟩
  | succ d ih =>
    intro i n f hi
    by_cases hb : rdOf false x (i : Int) = true
    · by_cases h8 : (i : Int) ≥ 8
      · obtain ⟨r, h⟩ := ih (i + 1) (wrap64 (n + 1)) 1 (by omega)
        exact ⟨r, Ev.step (fun k => by simp only [spec_FileNeed.l1]; rw [if_pos (by omega), if_pos (by omega), if_pos hb, if_pos h8, show wrap64 ((i : Int) + 1) = ((i + 1 : Nat) : Int) by unfold wrap64; omega]) h⟩
      · obtain ⟨r, h⟩ := ih (i + 1) (wrap64 (n + 1)) f (by omega)
        exact ⟨r, Ev.step (fun k => by simp only [spec_FileNeed.l1]; rw [if_pos (by omega), if_pos (by omega), if_pos hb, if_neg h8, show wrap64 ((i : Int) + 1) = ((i + 1 : Nat) : Int) by unfold wrap64; omega]) h⟩
    · obtain ⟨r, h⟩ := ih (i + 1) n f (by omega)
      exact ⟨r, Ev.step (fun k => by simp only [spec_FileNeed.l1]; rw [if_pos (by omega), if_pos (by omega), if_neg hb, show wrap64 ((i : Int) + 1) = ((i + 1 : Nat) : Int) by unfold wrap64; omega]) h⟩
theorem l0_some (l : List Int) (hl : l.length ≤ 100000) (d : Nat) : ∀ (i : Nat) (x : List Bool), x.length = 40 → i + d = l.length → ∃ r, Ev (fun k => spec_FileNeed.l0 k l x (i : Int)) r := by
  induction d with
  | zero =>
    intro i x hx hi
    obtain ⟨r, h⟩ := l1_some x hx 40 0 0 0 (by omega)
    exact ⟨r, Ev.step (fun k => by simp only [spec_FileNeed.l0]; rw [if_neg (by omega)]; rfl) h⟩
  | succ d ih =>
    intro i x hx hi
    by_cases h0 : rd l (i : Int) < 0
    · exact ⟨-1, Ev.step (f := fun _ => some (-1)) (fun k => by simp only [spec_FileNeed.l0]; rw [if_pos (by omega), if_pos (by omega), if_pos h0]) (Ev.now _)⟩
    · by_cases h1 : rd l (i : Int) ≥ 40
      · exact ⟨-1, Ev.step (f := fun _ => some (-1)) (fun k => by simp only [spec_FileNeed.l0]; rw [if_pos (by omega), if_pos (by omega), if_neg h0, if_pos h1]) (Ev.now _)⟩
      · obtain ⟨r, h⟩ := ih (i + 1) (x.set (rd l (i : Int)).toNat true) (by simpa using hx) (by omega)
        exact ⟨r, Ev.step (fun k => by simp only [spec_FileNeed.l0]; rw [if_pos (by omega), if_pos (by omega), if_neg h0, if_neg h1, if_pos (by omega), if_pos (by omega), show wrap64 ((i : Int) + 1) = ((i + 1 : Nat) : Int) by unfold wrap64; omega]) h⟩
theorem spec_some (l : List Int) : ∃ r, Ev (fun k => spec_FileNeed.f k l) r := by
  by_cases h : (l.length : Int) > 100000
  · exact ⟨-1, Ev.congr (fun k => by unfold spec_FileNeed.f; rw [if_pos h]) (Ev.now _)⟩
  · obtain ⟨r, h1⟩ := l0_some l (by omega) l.length 0 (List.replicate 40 false) (by simp) (by omega)
    exact ⟨r, Ev.congr (fun k => by unfold spec_FileNeed.f; rw [if_neg h, if_pos (by omega)]) (show Ev (fun k => spec_FileNeed.l0 k l (List.replicate 40 false) 0) r from h1)⟩
end FN
theorem FnExactFileNeed : laws_FnExactFileNeed.Pure := by
  intro l _ hl _
  by_cases h : (l.length : Int) > 1048576
  · exact ⟨0, by unfold laws_FnExactFileNeed.f; rw [if_pos h]⟩
  have t := toS_ev (F := laws_toInt64S.f) (fun _ _ => rfl) (fun _ _ _ _ => rfl) l (by omega) (by omega)
  have e := eqS_ev (F := laws_eqInt64S.f) (fun _ _ _ => rfl) (fun _ _ _ _ => rfl) l (by omega)
  obtain ⟨r, s⟩ := FN.spec_some l
  have i : Ev (fun k => impl_FileNeed.f k l) r := s
  refine Ev.rounds (Ev.congr (fun k => by unfold laws_FnExactFileNeed.f; rw [if_neg h]) ?_)
  refine t.bind (s.bind (t.bind (i.bind ?_)))
  refine Ev.congr (fun k => by rw [if_pos rfl]) ?_
  exact t.bind (e.bind (Ev.now true))
end Go.Proofs.Ytdkjidnagkcenaa.Pure
