import Derived.Test.YtdhjhadcadcceaaVFDWWords
import Derived.Test.YtdhjhadcadcceaaVFDWMore
import Derived.Laws.BitsLemmas
import Derived.Laws.BitsAllLaws
/- Small plain lemmas over the print's words: loops that copy, compare, mark; bits and wraps. -/
namespace Go.Proofs.Ytdhjhadcadcceaa.Hlp
open Go.RowKit Go.Proofs.YtdhjhadcadcceaaW.PrintWords Go.Proofs.YtdhjhadcadcceaaW.PrintMore

theorem w64 {x : Int} (h0 : -9223372036854775808 ≤ x) (h1 : x ≤ 9223372036854775807) : wrap64 x = x := by unfold wrap64; omega
theorem wfb {x : Int} (h : (Lit.int .u8 x).wf = true) : 0 ≤ x ∧ x ≤ 255 := by
  simp [Lit.wf, IntKind.min, IntKind.max, IntKind.bits, IntKind.signed] at h; omega
theorem rd_nat (l : List Int) (i : Nat) (h : i < l.length) : rd l (i : Int) = l[i] := by
  unfold rd; simp [h]
theorem rd_mem {l : List Int} {i : Int} (h0 : 0 ≤ i) (h1 : i < l.length) : rd l i ∈ l := by
  obtain ⟨n, rfl⟩ := Int.eq_ofNat_of_zero_le h0
  rw [rd_nat l n (by omega)]; exact List.getElem_mem _
theorem Ev.at {α : Type} {g : Nat → Option α} {r : α} (h : ∀ k, g k = some r) : Ev g r := ⟨0, fun k _ => h k⟩
theorem Ev.elim {α : Type} {g : Nat → Option α} {r : α} (h : Ev g r) : ∃ k, g k = some r := h.rounds

/-- A loop that copies a list into zeros. -/
theorem copy_ev {L : Nat → List Int → List Int → Int → Option (List Int)}
    (hL : ∀ k x0 x3 x4, L (k + 1) x0 x3 x4 = if x4 < (x0.length : Int) then (if 0 ≤ x4 then (if x4 < (x3.length : Int) then (L k x0 (x3.set (x4 : Int).toNat (rd x0 x4)) (wrap64 (x4 + 1))) else none) else none) else some x3)
    (l : List Int) (hl : (l.length : Int) ≤ 9223372036854775806) (d : Nat) : ∀ (i : Nat) (x : List Int), i + d = l.length → x.length = l.length → x.take i = l.take i → Ev (fun k => L k l x (i : Int)) l := by
  induction d with
  | zero =>
    intro i x hi hx ht
    refine Ev.step (f := fun _ => some l) (fun k => ?_) (Ev.now l)
    rw [hL, if_neg (by omega)]
    have h1 : x.take i = x := List.take_of_length_le (by omega)
    have h2 : l.take i = l := List.take_of_length_le (by omega)
    rw [h1, h2] at ht; rw [ht]
  | succ d ih =>
    intro i x hi hx ht
    refine Ev.step (f := fun k => L k l (x.set i (rd l i)) ((i + 1 : Nat) : Int)) (fun k => ?_) (ih (i + 1) _ (by omega) (by simpa using hx) ?_)
    · rw [hL, if_pos (by omega), if_pos (by omega), if_pos (by omega), w64 (by omega) (by omega)]; simp
    · rw [List.take_succ_eq_append_getElem (by simp; omega), List.take_succ_eq_append_getElem (by omega), List.take_set_of_le (by omega), ht]
      simp [rd_nat l i (by omega)]
/-- From the end down. -/
theorem down {P : Nat → Prop} (n : Nat) (fin : P n) (step : ∀ i, i < n → P (i + 1) → P i) : P 0 := by
  have : ∀ d, d ≤ n → P (n - d) := by
    intro d
    induction d with
    | zero => intro _; exact fin
    | succ d ih => intro h; exact step _ (by omega) (by rw [show n - (d + 1) + 1 = n - d by omega]; exact ih (by omega))
  have h := this n (Nat.le_refl _)
  rwa [Nat.sub_self] at h
/-- The marks: s, s + 1, .. as g writes them. -/
def marks (g : Int → Int) (s : Int) : Nat → List Int
  | 0 => []
  | n + 1 => g s :: marks g (s + 1) n
/-- A loop that marks elements, w numbers each. -/
def marksG {β : Type} (mk : β → Int → β) (w : Nat) (s : Int) : List β → List β
  | [] => []
  | b :: r => mk b s :: marksG mk w (s + w) r
end Go.Proofs.Ytdhjhadcadcceaa.Hlp
