/- FnExactEscape: at every list of bytes the program's Escape returns what the reference's returns, in memory of its own, and the bytes stay as they were. -/
import Derived.Test.YtmaeofmmainmlaaPFnExactEscapex3
import Derived.Test.YtmaeofmmainmlaaHlp
namespace Go.Proofs.Ytmaeofmmainmlaa.Pure
open Go.RowKit Go.Proofs.Ytmaeofmmainmlaa.PFnExactEscape Go.Proofs.YtmaeofmmainmlaaW.PrintWords Go.Proofs.YtmaeofmmainmlaaW.PrintLast Go.Proofs.YtmaeofmmainmlaaW.PrintMore Go.Proofs.Ytmaeofmmainmlaa.Hlp
namespace ES
theorem magic_str : (strOfNums [106, 108, 111, 103]).toList = ([106, 108, 111, 103] : List UInt8) := by decide +kernel
theorem zero_str : (strOfNums [0, 0, 0, 0]).toList = ([0, 0, 0, 0] : List UInt8) := by decide +kernel
theorem begins_some (l : List Int) (h : (l.length : Int) = 64) : spec_l3Begins.f l = some ((strOfNums (l.take 4)).toList == ([106, 108, 111, 103] : List UInt8)) := by
  unfold spec_l3Begins.f spec_l3Magic.f spec_l2Same.f
  rw [if_pos (by omega), if_pos (by omega), Option.bind_some, Option.bind_some, magic_str]
theorem join_some (a b : List Int) (h : a.length + b.length < 140737488355328) : spec_l2Join.f a b = some (a ++ b) := by
  unfold spec_l2Join.f spec_l1Copy.f
  rw [Option.bind_some, if_pos (by simp; omega), Option.bind_some, if_pos (by simpa using h)]; rfl
theorem copy_some (a : List Int) (h : a.length < 140737488355328) : spec_l1Copy.f a = some a := by
  unfold spec_l1Copy.f
  rw [Option.bind_some, if_pos (by simpa using h)]; rfl
theorem zero_some : spec_l2Zero.f 4 = some [0, 0, 0, 0] := by
  unfold spec_l2Zero.f
  rw [if_pos (by omega), if_pos (by decide)]; rfl
theorem splice_head (l x : List Int) : splice l 0 x = x ++ l.drop x.length := by
  simp [splice]
theorem same (l : List Int) : spec_Escape.f l = impl_Escape.f l := by
  unfold spec_Escape.f impl_Escape.f
  by_cases h64 : (l.length : Int) = 64
  rotate_left
  · rw [if_neg h64, if_neg h64]
  rw [if_pos h64, if_pos h64, begins_some l h64, Option.bind_some, copy_some l (by omega)]
  by_cases he : (strOfNums (l.take 4)).toList = ([106, 108, 111, 103] : List UInt8)
  · rw [if_pos (by simpa using he), if_pos he, zero_some, Option.bind_some, if_pos (by omega), join_some _ _ (by simp; omega), Option.bind_some, splice_head]; rfl
  · rw [if_neg (by simpa using he), if_neg he, Option.bind_some]
theorem some_of (l : List Int) : ∃ b r c, impl_Escape.f l = some (b, r, c) ∧ r.length ≤ 64 := by
  unfold impl_Escape.f
  by_cases h64 : (l.length : Int) = 64
  rotate_left
  · exact ⟨false, [], false, by rw [if_neg h64], by simp⟩
  rw [if_pos h64]
  by_cases he : (strOfNums (l.take 4)).toList = ([106, 108, 111, 103] : List UInt8)
  · exact ⟨true, _, true, by rw [if_pos he], by simp [splice]; omega⟩
  · exact ⟨true, l, false, by rw [if_neg he], by omega⟩
end ES
theorem FnExactEscape : laws_FnExactEscape.Pure := by
  intro l _ hl _
  by_cases h : (l.length : Int) > 1048576
  · exact ⟨0, by unfold laws_FnExactEscape.f; rw [if_pos h]⟩
  have t := toS_ev (F := laws_toByteS.f) (fun _ _ => rfl) (fun _ _ _ _ => rfl) l (by omega) (by omega)
  have et := eqS_ev (F := laws_eqByteS.f) (fun _ _ _ => rfl) (fun _ _ _ _ => rfl) l (by omega)
  have mt : Ev (fun k => laws_markByteS.f k l 1) _ := mark_ev (fun x => x % 256) (L := laws_markByteS.l0) (fun _ _ _ _ => rfl) l 1 (by omega) (by omega)
  obtain ⟨b, r, c, hi, hr⟩ := ES.some_of l
  have hs : spec_Escape.f l = some (b, r, c) := (ES.same l).trans hi
  have e0 := eqS_ev (F := laws_eqByteS.f) (fun _ _ _ => rfl) (fun _ _ _ _ => rfl) r (by omega)
  have e : Ev (fun k => laws_eqCopied.f k b r c b r c) true := by
    refine Ev.congr (fun k => by unfold laws_eqCopied.f; rw [if_neg (by simp)]) ?_
    refine e0.bind ?_
    refine Ev.congr (fun k => if_pos rfl) ?_
    exact Ev.congr (fun k => if_neg (by simp)) (Ev.now _)
  have m : Ev (fun k => laws_markCopied.f k b r c 1) _ := (show Ev (fun k => laws_markByteS.f k r 1) _ from mark_ev (fun x => x % 256) (L := laws_markByteS.l0) (fun _ _ _ _ => rfl) r 1 (by omega) (by omega)).bind (Ev.now _)
  have hd : Ev (fun k => laws_heldCopied.f k b (marks (fun x => x % 256) 1 r.length) c 1) (1 + (r.length : Int)) := by
    refine Ev.congr (fun k => by unfold laws_heldCopied.f; rfl) ?_
    refine (show Ev (fun k => laws_heldByteS.f k (marks (fun x => x % 256) 1 r.length) 1) _ from held_ev (fun x => x % 256) (L := laws_heldByteS.l0) (fun _ _ _ _ => rfl) r.length 1 (by omega) (by omega)).bind ?_
    exact Ev.congr (fun k => if_neg (by omega)) (Ev.now _)
  refine Ev.rounds (Ev.congr (fun k => by unfold laws_FnExactEscape.f; rw [if_neg h]) ?_)
  refine t.bind ?_
  refine Ev.congr (fun k => by rw [hs, Option.bind_some]) ?_
  refine t.bind ?_
  refine Ev.congr (fun k => by rw [hi, Option.bind_some]) ?_
  refine e.bind ?_
  refine Ev.congr (fun k => if_pos rfl) ?_
  refine t.bind ?_
  refine et.bind ?_
  refine Ev.congr (fun k => if_pos rfl) ?_
  refine mt.bind ?_
  refine Ev.congr (fun k => if_neg (by simp only; omega)) ?_
  refine e.bind ?_
  refine Ev.step (fun k => by simp only [laws_FnExactEscape.j0]; rw [if_neg (by decide)]) ?_
  refine m.bind ?_
  refine hd.bind ?_
  refine Ev.congr (fun k => if_neg (by omega)) ?_
  refine Ev.congr (fun k => if_pos rfl) ?_
  refine t.bind ?_
  refine Ev.congr (fun k => by rw [hi, Option.bind_some]) ?_
  refine e.bind ?_
  refine Ev.congr (fun k => if_pos rfl) ?_
  refine hd.bind ?_
  refine Ev.congr (fun k => if_neg (by omega)) ?_
  exact Ev.congr (fun k => if_pos rfl) (Ev.now true)
end Go.Proofs.Ytmaeofmmainmlaa.Pure
