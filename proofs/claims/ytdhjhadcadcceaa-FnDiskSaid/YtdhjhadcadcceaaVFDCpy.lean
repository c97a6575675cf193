import Derived.Test.YtdhjhadcadcceaaVFDWWords
import Derived.Test.YtdhjhadcadcceaaVFDWKept
import Derived.Test.YtdhjhadcadcceaaVFDWLast
import Derived.Laws.CopyOwn
/- The builtin copy onto a row of the call's own, as one operation of a region: the row is spliced, nothing else turns. -/
namespace Go.Proofs.Ytdhjhadcadcceaa.Cpy
open Go.RowKit Go.Proofs.YtdhjhadcadcceaaW.PrintWords Go.Proofs.YtdhjhadcadcceaaW.PrintLast

theorem take_splice {α : Type} (L ys : List α) (off n : Nat) (hn : n ≤ L.length) (hf : off + ys.length ≤ n) : (L.take off ++ (ys ++ L.drop (off + ys.length))).take n = splice (L.take n) off ys := by
  unfold splice
  rw [List.take_append, List.take_take, List.length_take, List.take_append, List.take_take, List.drop_take]
  have e1 : min n off = off := by omega
  have e2 : min off L.length = off := by omega
  have e3 : min off n = off := by omega
  rw [e1, e2, e3, List.take_of_length_le (l := ys) (by omega)]
  congr 3; omega
theorem own_splice {W : World} {base g n cap : Nat} {e : TypeId} {xs : List Value} (h : W.ownsRow base e 1 (.slice (some ⟨g, 0, none⟩) n cap) n xs) (off : Nat) (ys : List Value) (hf : off + ys.length ≤ n) :
    ∃ cur : Array Value, W.heap[g]? = some (.cells cur e (0, 0)) ∧ off + ys.length ≤ cur.size ∧ base ≤ g ∧ (W.setRow g (cur.toList.take off ++ (ys ++ cur.toList.drop (off + ys.length))).toArray).ownsRow base e 1 (.slice (some ⟨g, 0, none⟩) n cap) n (splice xs off ys) := by
  obtain ⟨hl, h2⟩ := h
  rcases h2 with ⟨hv, _⟩ | ⟨g', cap', cur, hv, hb, hh, hnc, hcm, hcs, ht⟩
  · cases hv
  · injection hv with h1 h2 h3
    injection h1 with h1
    injection h1 with h1 _ _
    subst h1; subst h3
    rw [Nat.mul_one] at ht hcs
    have hsz : cur.toList.length = cur.size := by simp
    refine ⟨cur, hh, by omega, hb, ?_, ?_⟩
    · rw [length_splice _ _ _ (by omega)]; exact hl
    · refine .inr ⟨g, cap, _, rfl, hb, setRow_heap W g cur _ e (0, 0) hh, hnc, hcm, ?_, ?_⟩
      · simp; omega
      · rw [Nat.mul_one, ← ht]
        exact take_splice cur.toList ys off n (by omega) hf
section
variable {P : Program} {ops : Array Oper} {o : Oper} {a : Act} {w : World} {K : Act → World → Prop} {Q : Exit → Act → World → Prop} {E : Prop}
end
theorem nums_len (k : IntKind) (xs : List Int) : (nums k xs).length = xs.length := by simp [nums]
theorem nums_splice (k : IntKind) (xs ys : List Int) (off : Nat) : splice (nums k xs) off (nums k ys) = nums k (splice xs off ys) := by simp [splice, nums]
/-- The cells of a row that is read. -/
theorem src_cells {W : World} {A : Option Addr} {k : IntKind} {xs : List Int} (h : (Kd.int k).C W A xs.length xs) (m : Nat) (hm : m ≤ xs.length) (h0 : 0 < m) : ∃ ad, A = some ad ∧ ∀ j v, (nums k (xs.take m))[j]? = some v → W.cell? (ad.add j) = some v := by
  obtain ⟨ad, e, _⟩ := Kd.at_int h 0 (by omega) (by omega)
  refine ⟨ad, e, fun j v hj => ?_⟩
  have hl : j < m := by
    rcases Nat.lt_or_ge j m with h1 | h1
    · exact h1
    · rw [List.getElem?_eq_none (by rw [nums_len, List.length_take]; omega)] at hj; cases hj
  obtain ⟨ad2, e2, hc⟩ := Kd.at_int h (j : Int) (by omega) (by omega)
  rw [e] at e2; cases e2
  rw [Int.toNat_natCast] at hc
  have hj2 : j < xs.length := by omega
  have e3 : rd xs (j : Int) = xs[j] := by unfold rd; simp [hj2]
  rw [hc, ← hj, e3]
  simp [nums, hl, hj2]
end Go.Proofs.Ytdhjhadcadcceaa.Cpy
