/- FnExactLogTail: at every five numbers the program's LogTail returns what the reference's returns (the plain law; the row stands beside it). -/
import Derived.Test.YtdkjidnagkcenaaPFnExactLogTailx
import Derived.Test.YtdkjidnagkcenaaHlp
namespace Go.Proofs.Ytdkjidnagkcenaa.Pure
open Go.RowKit Go.Proofs.Ytdkjidnagkcenaa.PFnExactLogTail Go.Proofs.YtdkjidnagkcenaaW.PrintWords Go.Proofs.YtdkjidnagkcenaaW.PrintLast Go.Proofs.YtdkjidnagkcenaaW.PrintMore Go.Proofs.Ytdkjidnagkcenaa.Hlp
namespace LT
theorem j0_some (k : Nat) (b : Bool) (s st q hd us : Int) (hs : b = false → s ≠ 0) : ∃ r, spec_ValidLog.j0 (k + 1) b s st q hd us = some r := by
  simp only [spec_ValidLog.j0]
  cases b with
  | true => exact ⟨false, if_pos rfl⟩
  | false =>
    by_cases h : st = 0
    · exact ⟨_, by rw [if_neg (by simp), if_pos h]⟩
    · unfold spec_l4Place.f
      exact ⟨_, by rw [if_neg (by simp), if_neg h, if_neg (hs rfl), Option.bind_some]⟩
theorem spec_some (s st q hd us : Int) : ∃ r, Ev (fun k => spec_ValidLog.f k s st q hd us) r := by
  have key : ∃ r, spec_ValidLog.f 1 s st q hd us = some r := by
    have jt := fun hs => j0_some 0 true s st q hd us hs
    have jt' := jt (fun h => by cases h)
    unfold spec_ValidLog.f spec_l3GoodSeq.f
    by_cases c1 : q ≥ 1
    · rw [if_pos c1, Option.bind_some]
      by_cases c2 : decide (q ≤ 4294967295) = true
      · rw [if_pos c2]
        by_cases c3 : s < 16
        · rw [if_pos c3]; exact jt'
        · rw [if_neg c3]
          split
          · exact jt'
          · split
            · exact jt'
            · split
              · exact jt'
              · split
                · exact jt'
                · split
                  · exact jt'
                  · split
                    · exact jt'
                    · exact j0_some 0 _ s st q hd us (fun _ => by omega)
      · rw [if_neg c2]; exact jt'
    · rw [if_neg c1, Option.bind_some, if_neg (by simp)]; exact jt'
  obtain ⟨r, h⟩ := key
  exact ⟨r, Ev.of (fun k => spec_ValidLog.mono s st q hd us k) h⟩
def tailOf (r : Bool) (s st q hd us : Int) : Int × Int × Int × Int × Int := if r = true then (if us = 0 then (s, st, q, hd, us) else (s, hd, q, hd, 0)) else (0, 0, 0, 0, 0)
theorem eq_same (a b c d e : Int) : laws_eqLog.f a b c d e a b c d e = some true := by unfold laws_eqLog.f; simp
end LT
theorem FnExactLogTail (s st q hd us : Int) (_ : (Lit.int .i64 s).wf = true) (_ : (Lit.int .i64 st).wf = true) (_ : (Lit.int .i64 q).wf = true) (_ : (Lit.int .i64 hd).wf = true) (_ : (Lit.int .i64 us).wf = true) : ∃ k, laws_FnExactLogTail.f k s st q hd us = some true := by
  obtain ⟨r, h⟩ := LT.spec_some s st q hd us
  have i : Ev (fun k => impl_ValidLog.f k s st q hd us) r := h
  have hus : r = true → 0 ≤ us := fun hr => by
    obtain ⟨k, hk⟩ := h.rounds
    have := ((vl_of hk).1 hr).2.2.2.2.1
    unfold vlIn at this; have := of_decide_eq_true this; omega
  have sl : Ev (fun k => spec_LogTail.f k s st q hd us) (LT.tailOf r s st q hd us) := by
    refine Ev.congr (fun k => by unfold spec_LogTail.f; rfl) ?_
    refine h.bind ?_
    unfold LT.tailOf
    by_cases c : r = true
    · refine Ev.congr (fun k => if_pos c) ?_
      rw [if_pos c]
      by_cases c2 : us = 0
      · rw [if_pos c2]; exact Ev.congr (fun k => if_neg (by omega)) (Ev.now _)
      · rw [if_neg c2]; exact Ev.congr (fun k => if_pos (by have := hus c; omega)) (Ev.now _)
    · refine Ev.congr (fun k => if_neg c) ?_; rw [if_neg c]; exact Ev.now _
  have il : Ev (fun k => impl_LogTail.f k s st q hd us) (LT.tailOf r s st q hd us) := by
    refine Ev.congr (fun k => by unfold impl_LogTail.f; rfl) ?_
    refine i.bind ?_
    unfold LT.tailOf
    by_cases c : r = true
    · refine Ev.congr (fun k => if_pos c) ?_
      rw [if_pos c]
      by_cases c2 : us = 0
      · refine Ev.congr (fun k => if_pos c2) ?_; rw [if_pos c2]; exact Ev.now _
      · refine Ev.congr (fun k => if_neg c2) ?_; rw [if_neg c2]; exact Ev.now _
    · refine Ev.congr (fun k => if_neg c) ?_; rw [if_neg c]; exact Ev.now _
  refine Ev.rounds (Ev.congr (fun k => by unfold laws_FnExactLogTail.f laws_toLog.f; simp only [Option.bind_some]; rfl) ?_)
  refine sl.bind ?_
  refine il.bind ?_
  refine Ev.congr (fun k => by rw [LT.eq_same, Option.bind_some]) ?_
  exact Ev.congr (fun k => if_pos rfl) (Ev.now true)
end Go.Proofs.Ytdkjidnagkcenaa.Pure
