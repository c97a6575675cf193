/- FnExactUnescape: at every list of bytes and either flag the program's Unescape returns what the reference's returns, in memory of its own, and the bytes stay as they were. -/
import Derived.Test.YtmaeofmmainmlaaPFnExactUnescapex3
import Derived.Test.YtmaeofmmainmlaaHlp
namespace Go.Proofs.Ytmaeofmmainmlaa.Pure
open Go.RowKit Go.Proofs.Ytmaeofmmainmlaa.PFnExactUnescape Go.Proofs.YtmaeofmmainmlaaW.PrintWords Go.Proofs.YtmaeofmmainmlaaW.PrintLast Go.Proofs.YtmaeofmmainmlaaW.PrintMore Go.Proofs.Ytmaeofmmainmlaa.Hlp
namespace UN
theorem magic_str : (strOfNums [106, 108, 111, 103]).toList = ([106, 108, 111, 103] : List UInt8) := by decide +kernel
theorem zero_str : (strOfNums [0, 0, 0, 0]).toList = ([0, 0, 0, 0] : List UInt8) := by decide +kernel
theorem begins_some (l : List Int) (h : (l.length : Int) = 64) : spec_l3Begins.f l = some ((strOfNums (l.take 4)).toList == ([106, 108, 111, 103] : List UInt8)) := by
  unfold spec_l3Begins.f spec_l3Magic.f spec_l2Same.f
  rw [if_pos (by omega), if_pos (by omega), Option.bind_some, Option.bind_some, magic_str]
theorem join_some (a b : List Int) (h : a.length + b.length < 140737488355328) : spec_l2Join.f a b = some (a ++ b) := by
  unfold spec_l2Join.f spec_l1Copy.f
  rw [Option.bind_some, if_pos (by simp; omega), Option.bind_some, if_pos (by simpa using h)]; rfl
theorem copy_some (a : List Int) (h : a.length < 140737488355328) : spec_l1Copy.f a = some a := by
  unfold spec_l1Copy.f
  rw [Option.bind_some, if_pos (by simpa using h)]; rfl
theorem zero_some : spec_l2Zero.f 4 = some [0, 0, 0, 0] := by
  unfold spec_l2Zero.f
  rw [if_pos (by omega), if_pos (by decide)]; rfl
theorem splice_head (l x : List Int) : splice l 0 x = x ++ l.drop x.length := by
  simp [splice]
theorem same (l : List Int) (a : Bool) : spec_Unescape.f l a = impl_Unescape.f l a := by
  unfold spec_Unescape.f impl_Unescape.f
  by_cases h64 : (l.length : Int) = 64
  rotate_left
  · rw [if_neg h64, if_neg h64]
  rw [if_pos h64, if_pos h64]
  cases a with
  | true =>
    rw [if_pos rfl, if_pos rfl, if_pos (by omega), zero_some, Option.bind_some]
    unfold spec_l2Same.f spec_l3Magic.f
    rw [Option.bind_some, zero_str]
    by_cases he : (strOfNums (l.take 4)).toList = ([0, 0, 0, 0] : List UInt8)
    · rw [if_pos (by simpa using he), if_pos he, Option.bind_some, join_some _ _ (by simp; omega), Option.bind_some, splice_head]; rfl
    · rw [if_neg (by simpa using he), if_neg he]
  | false =>
    rw [if_neg (by simp), if_neg (by simp), begins_some l h64, Option.bind_some, copy_some l (by omega)]
    by_cases he : (strOfNums (l.take 4)).toList = ([106, 108, 111, 103] : List UInt8)
    · rw [if_pos (by simpa using he), if_pos he]
    · rw [if_neg (by simpa using he), if_neg he, Option.bind_some]
theorem some_of (l : List Int) (a : Bool) : ∃ r, impl_Unescape.f l a = some r ∧ r.length ≤ 64 := by
  unfold impl_Unescape.f
  by_cases h64 : (l.length : Int) = 64
  rotate_left
  · exact ⟨[], by rw [if_neg h64], by simp⟩
  rw [if_pos h64]
  cases a with
  | true =>
    rw [if_pos rfl]
    by_cases he : (strOfNums (l.take 4)).toList = ([0, 0, 0, 0] : List UInt8)
    · exact ⟨_, by rw [if_pos he], by simp [splice]; omega⟩
    · exact ⟨[], by rw [if_neg he], by simp⟩
  | false =>
    rw [if_neg (by simp)]
    by_cases he : (strOfNums (l.take 4)).toList = ([106, 108, 111, 103] : List UInt8)
    · exact ⟨[], by rw [if_pos he], by simp⟩
    · exact ⟨l, by rw [if_neg he], by omega⟩
end UN
theorem FnExactUnescape : laws_FnExactUnescape.Pure := by
  intro l a _ hl _
  by_cases h : (l.length : Int) > 1048576
  · exact ⟨0, by unfold laws_FnExactUnescape.f; rw [if_pos h]⟩
  have t := toS_ev (F := laws_toByteS.f) (fun _ _ => rfl) (fun _ _ _ _ => rfl) l (by omega) (by omega)
  have et := eqS_ev (F := laws_eqByteS.f) (fun _ _ _ => rfl) (fun _ _ _ _ => rfl) l (by omega)
  have mt : Ev (fun k => laws_markByteS.f k l 1) _ := mark_ev (fun x => x % 256) (L := laws_markByteS.l0) (fun _ _ _ _ => rfl) l 1 (by omega) (by omega)
  obtain ⟨r, hi, hr⟩ := UN.some_of l a
  have hs : spec_Unescape.f l a = some r := (UN.same l a).trans hi
  have e := eqS_ev (F := laws_eqByteS.f) (fun _ _ _ => rfl) (fun _ _ _ _ => rfl) r (by omega)
  have m : Ev (fun k => laws_markByteS.f k r 1) _ := mark_ev (fun x => x % 256) (L := laws_markByteS.l0) (fun _ _ _ _ => rfl) r 1 (by omega) (by omega)
  have hd : Ev (fun k => laws_heldByteS.f k _ 1) _ := held_ev (fun x => x % 256) (L := laws_heldByteS.l0) (fun _ _ _ _ => rfl) r.length 1 (by omega) (by omega)
  refine Ev.rounds (Ev.congr (fun k => by unfold laws_FnExactUnescape.f; rw [if_neg h]) ?_)
  refine t.bind ?_
  refine Ev.congr (fun k => by rw [hs, Option.bind_some]) ?_
  refine t.bind ?_
  refine Ev.congr (fun k => by rw [hi, Option.bind_some]) ?_
  refine e.bind ?_
  refine Ev.congr (fun k => if_pos rfl) ?_
  refine t.bind ?_
  refine et.bind ?_
  refine Ev.congr (fun k => if_pos rfl) ?_
  refine mt.bind ?_
  refine Ev.congr (fun k => if_neg (by simp only; omega)) ?_
  refine e.bind ?_
  refine Ev.step (fun k => by simp only [laws_FnExactUnescape.j0]; rw [if_neg (by decide)]) ?_
  refine m.bind ?_
  refine hd.bind ?_
  refine Ev.congr (fun k => if_neg (by omega)) ?_
  refine Ev.congr (fun k => if_pos rfl) ?_
  refine t.bind ?_
  refine Ev.congr (fun k => by rw [hi, Option.bind_some]) ?_
  refine e.bind ?_
  refine Ev.congr (fun k => if_pos rfl) ?_
  refine hd.bind ?_
  refine Ev.congr (fun k => if_neg (by omega)) ?_
  exact Ev.congr (fun k => if_pos rfl) (Ev.now true)
end Go.Proofs.Ytmaeofmmainmlaa.Pure
