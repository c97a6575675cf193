/- FnExactBlockKind: at every list of bytes the program's BlockKind returns what the reference's returns, and the bytes stay as they were. -/
import Derived.Test.YtdkjidnagkcenaaPFnExactBlockKindx2
import Derived.Test.YtdkjidnagkcenaaHlp
namespace Go.Proofs.Ytdkjidnagkcenaa.Pure
open Go.RowKit Go.Proofs.Ytdkjidnagkcenaa.PFnExactBlockKind Go.Proofs.YtdkjidnagkcenaaW.PrintWords Go.Proofs.YtdkjidnagkcenaaW.PrintLast Go.Proofs.YtdkjidnagkcenaaW.PrintMore Go.Proofs.Ytdkjidnagkcenaa.Hlp
namespace BK
theorem same (l : List Int) : spec_BlockKind.f l = impl_BlockKind.f l := by
  unfold spec_BlockKind.f impl_BlockKind.f spec_l3Begins.f spec_l3Magic.f spec_l2Same.f
  have hm : (strOfNums [106, 108, 111, 103]).toList = ([106, 108, 111, 103] : List UInt8) := by decide +kernel
  by_cases h4 : (l.length : Int) ≥ 4
  · have h4' : 4 ≤ (l.length : Int) := h4
    by_cases h64 : (l.length : Int) = 64
    · by_cases he : (strOfNums (l.take 4)).toList = ([106, 108, 111, 103] : List UInt8)
      · simp [h64, he, hm]
      · simp [h64, he, hm]
    · simp [h4, h64]
  · have h64 : ¬ (l.length : Int) = 64 := by omega
    simp [h4, h64]
theorem some_of (l : List Int) : ∃ r, impl_BlockKind.f l = some r := by
  unfold impl_BlockKind.f
  by_cases h64 : (l.length : Int) = 64
  · rw [if_pos h64, if_pos (by omega)]
    split
    · rw [if_pos (by omega)]
      split
      · exact ⟨_, rfl⟩
      · split <;> exact ⟨_, rfl⟩
    · exact ⟨_, rfl⟩
  · rw [if_neg h64]; exact ⟨_, rfl⟩
end BK
theorem FnExactBlockKind : laws_FnExactBlockKind.Pure := by
  intro l _ hl hb
  by_cases h : (l.length : Int) > 1048576
  · exact ⟨0, by unfold laws_FnExactBlockKind.f; rw [if_pos h]⟩
  have t := toS_ev (F := laws_toByteS.f) (fun _ _ => rfl) (fun _ _ _ _ => rfl) l (by omega) (by omega)
  have e := eqS_ev (F := laws_eqByteS.f) (fun _ _ _ => rfl) (fun _ _ _ _ => rfl) l (by omega)
  obtain ⟨r, hr⟩ := BK.some_of l
  have hs := (BK.same l).trans hr
  refine Ev.rounds (Ev.congr (fun k => by unfold laws_FnExactBlockKind.f; rw [if_neg h]) ?_)
  refine t.bind (Ev.congr (fun k => by rw [hs, Option.bind_some]) (t.bind (Ev.congr (fun k => by rw [hr, Option.bind_some, if_pos rfl]) ?_)))
  exact t.bind (e.bind (Ev.now true))
end Go.Proofs.Ytdkjidnagkcenaa.Pure
