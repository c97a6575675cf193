/- FnExactValidLog: at every five numbers the program's ValidLog answers as the reference's (the plain law; the row stands beside it). -/
import Derived.Test.YtdkjidnagkcenaaPFnExactValidLogx
import Derived.Test.YtdkjidnagkcenaaHlp
namespace Go.Proofs.Ytdkjidnagkcenaa.Pure
open Go.RowKit Go.Proofs.Ytdkjidnagkcenaa.PFnExactValidLog Go.Proofs.YtdkjidnagkcenaaW.PrintWords Go.Proofs.YtdkjidnagkcenaaW.PrintLast Go.Proofs.YtdkjidnagkcenaaW.PrintMore Go.Proofs.Ytdkjidnagkcenaa.Hlp
namespace VL
theorem j0_some (k : Nat) (b : Bool) (s st q hd us : Int) (hs : b = false → s ≠ 0) : ∃ r, spec_ValidLog.j0 (k + 1) b s st q hd us = some r := by
  simp only [spec_ValidLog.j0]
  cases b with
  | true => exact ⟨false, if_pos rfl⟩
  | false =>
    by_cases h : st = 0
    · exact ⟨_, by rw [if_neg (by simp), if_pos h]⟩
    · unfold spec_l4Place.f
      exact ⟨_, by rw [if_neg (by simp), if_neg h, if_neg (hs rfl), Option.bind_some]⟩
theorem spec_some (s st q hd us : Int) : ∃ r, Ev (fun k => spec_ValidLog.f k s st q hd us) r := by
  have key : ∃ r, spec_ValidLog.f 1 s st q hd us = some r := by
    have jt := fun hs => j0_some 0 true s st q hd us hs
    have jt' := jt (fun h => by cases h)
    unfold spec_ValidLog.f spec_l3GoodSeq.f
    by_cases c1 : q ≥ 1
    · rw [if_pos c1, Option.bind_some]
      by_cases c2 : decide (q ≤ 4294967295) = true
      · rw [if_pos c2]
        by_cases c3 : s < 16
        · rw [if_pos c3]; exact jt'
        · rw [if_neg c3]
          split
          · exact jt'
          · split
            · exact jt'
            · split
              · exact jt'
              · split
                · exact jt'
                · split
                  · exact jt'
                  · split
                    · exact jt'
                    · exact j0_some 0 _ s st q hd us (fun _ => by omega)
      · rw [if_neg c2]; exact jt'
    · rw [if_neg c1, Option.bind_some, if_neg (by simp)]; exact jt'
  obtain ⟨r, h⟩ := key
  exact ⟨r, Ev.of (fun k => spec_ValidLog.mono s st q hd us k) h⟩
end VL
theorem FnExactValidLog (s st q hd us : Int) (_ : (Lit.int .i64 s).wf = true) (_ : (Lit.int .i64 st).wf = true) (_ : (Lit.int .i64 q).wf = true) (_ : (Lit.int .i64 hd).wf = true) (_ : (Lit.int .i64 us).wf = true) : ∃ k, laws_FnExactValidLog.f k s st q hd us = some true := by
  obtain ⟨r, h⟩ := VL.spec_some s st q hd us
  have i : Ev (fun k => impl_ValidLog.f k s st q hd us) r := h
  refine Ev.rounds (Ev.congr (fun k => by unfold laws_FnExactValidLog.f laws_toLog.f; simp only [Option.bind_some]; rfl) ?_)
  refine h.bind ?_
  refine i.bind ?_
  exact Ev.congr (fun k => if_neg (by simp)) (Ev.now true)
end Go.Proofs.Ytdkjidnagkcenaa.Pure
