import Derived.Test.YtkehfdadplpaeaaDoorVPLWWords
import Derived.Test.YtkehfdadplpaeaaDoorVPLWMore
import Derived.Laws.BitsLemmas
import Derived.Laws.BitsAllLaws
/- Small plain lemmas over the print's words: loops that copy, compare, mark; bits and wraps. -/
namespace Go.Proofs.YtkehfdadplpaeaaDoor.Hlp
open Go.RowKit Go.Proofs.YtkehfdadplpaeaaDoorW.PrintWords Go.Proofs.YtkehfdadplpaeaaDoorW.PrintMore

theorem w64 {x : Int} (h0 : -9223372036854775808 ≤ x) (h1 : x ≤ 9223372036854775807) : wrap64 x = x := by unfold wrap64; omega
theorem rd_nat (l : List Int) (i : Nat) (h : i < l.length) : rd l (i : Int) = l[i] := by
  unfold rd; simp [h]
theorem Ev.at {α : Type} {g : Nat → Option α} {r : α} (h : ∀ k, g k = some r) : Ev g r := ⟨0, fun k _ => h k⟩
theorem Ev.elim {α : Type} {g : Nat → Option α} {r : α} (h : Ev g r) : ∃ k, g k = some r := h.rounds

/-- A loop that copies a list into zeros. -/
theorem copy_ev {L : Nat → List Int → List Int → Int → Option (List Int)}
    (hL : ∀ k x0 x3 x4, L (k + 1) x0 x3 x4 = if x4 < (x0.length : Int) then (if 0 ≤ x4 then (if x4 < (x3.length : Int) then (L k x0 (x3.set (x4 : Int).toNat (rd x0 x4)) (wrap64 (x4 + 1))) else none) else none) else some x3)
    (l : List Int) (hl : (l.length : Int) ≤ 9223372036854775806) (d : Nat) : ∀ (i : Nat) (x : List Int), i + d = l.length → x.length = l.length → x.take i = l.take i → Ev (fun k => L k l x (i : Int)) l := by
  induction d with
  | zero =>
    intro i x hi hx ht
    refine Ev.step (f := fun _ => some l) (fun k => ?_) (Ev.now l)
    rw [hL, if_neg (by omega)]
    have h1 : x.take i = x := List.take_of_length_le (by omega)
    have h2 : l.take i = l := List.take_of_length_le (by omega)
    rw [h1, h2] at ht; rw [ht]
  | succ d ih =>
    intro i x hi hx ht
    refine Ev.step (f := fun k => L k l (x.set i (rd l i)) ((i + 1 : Nat) : Int)) (fun k => ?_) (ih (i + 1) _ (by omega) (by simpa using hx) ?_)
    · rw [hL, if_pos (by omega), if_pos (by omega), if_pos (by omega), w64 (by omega) (by omega)]; simp
    · rw [List.take_succ_eq_append_getElem (by simp; omega), List.take_succ_eq_append_getElem (by omega), List.take_set_of_le (by omega), ht]
      simp [rd_nat l i (by omega)]
theorem toS_ev {L : Nat → List Int → List Int → Int → Option (List Int)} {F : Nat → List Int → Option (List Int)} {B : Nat}
    (hF : ∀ k l, F k l = if 0 ≤ (l.length : Int) then (if ((l.length : Int) : Int).toNat ≤ B then (L k l (List.replicate ((l.length : Int) : Int).toNat 0) 0) else none) else none)
    (hL : ∀ k x0 x3 x4, L (k + 1) x0 x3 x4 = if x4 < (x0.length : Int) then (if 0 ≤ x4 then (if x4 < (x3.length : Int) then (L k x0 (x3.set (x4 : Int).toNat (rd x0 x4)) (wrap64 (x4 + 1))) else none) else none) else some x3)
    (l : List Int) (hl : l.length ≤ B) (h9 : (l.length : Int) ≤ 9223372036854775806) : Ev (fun k => F k l) l := by
  refine Ev.congr (f := fun k => L k l (List.replicate l.length 0) ((0 : Nat) : Int)) (fun k => ?_) (copy_ev hL l h9 l.length 0 _ (by omega) (by simp) (by simp))
  rw [hF, if_pos (by omega), if_pos (by simpa using hl)]; simp

/-- A loop that compares two lists of bytes (or numbers). -/
theorem eq_ev {L : Nat → List Int → List Int → Int → Option Bool}
    (hL : ∀ k x0 x1 x5, L (k + 1) x0 x1 x5 = if x5 < (x0.length : Int) then (if 0 ≤ x5 then (if x5 < (x1.length : Int) then (if (rd x0 x5) = (rd x1 x5) then (L k x0 x1 (wrap64 (x5 + 1))) else some false) else none) else none) else some true)
    (l : List Int) (hl : (l.length : Int) ≤ 9223372036854775806) (d : Nat) : ∀ (i : Nat), i + d = l.length → Ev (fun k => L k l l (i : Int)) true := by
  induction d with
  | zero =>
    intro i hi
    refine Ev.step (f := fun _ => some true) (fun k => ?_) (Ev.now true)
    rw [hL, if_neg (by omega)]
  | succ d ih =>
    intro i hi
    refine Ev.step (f := fun k => L k l l ((i + 1 : Nat) : Int)) (fun k => ?_) (ih (i + 1) (by omega))
    rw [hL, if_pos (by omega), if_pos (by omega), if_pos (by omega), if_pos rfl, w64 (by omega) (by omega)]; rfl
theorem eqS_ev {L : Nat → List Int → List Int → Int → Option Bool} {F : Nat → List Int → List Int → Option Bool}
    (hF : ∀ k l0 l1, F k l0 l1 = if (l0.length : Int) = (l1.length : Int) then (L k l0 l1 0) else some false)
    (hL : ∀ k x0 x1 x5, L (k + 1) x0 x1 x5 = if x5 < (x0.length : Int) then (if 0 ≤ x5 then (if x5 < (x1.length : Int) then (if (rd x0 x5) = (rd x1 x5) then (L k x0 x1 (wrap64 (x5 + 1))) else some false) else none) else none) else some true)
    (l : List Int) (hl : l.length ≤ 281474976710656) : Ev (fun k => F k l l) true :=
  Ev.congr (f := fun k => L k l l ((0 : Nat) : Int)) (fun k => by rw [hF, if_pos rfl]; rfl) (eq_ev hL l (by omega) l.length 0 (by omega))

/-- From the end down. -/
theorem down {P : Nat → Prop} (n : Nat) (fin : P n) (step : ∀ i, i < n → P (i + 1) → P i) : P 0 := by
  have : ∀ d, d ≤ n → P (n - d) := by
    intro d
    induction d with
    | zero => intro _; exact fin
    | succ d ih => intro h; exact step _ (by omega) (by rw [show n - (d + 1) + 1 = n - d by omega]; exact ih (by omega))
  have h := this n (Nat.le_refl _)
  rwa [Nat.sub_self] at h
/-- The marks: s, s + 1, .. as g writes them. -/
def marks (g : Int → Int) (s : Int) : Nat → List Int
  | 0 => []
  | n + 1 => g s :: marks g (s + 1) n
theorem marks_len (g : Int → Int) : ∀ (n : Nat) (s : Int), (marks g s n).length = n
  | 0, _ => rfl
  | n + 1, s => by simp [marks, marks_len g n]
theorem marks_get (g : Int → Int) : ∀ (n : Nat) (s : Int) (i : Nat) (h : i < (marks g s n).length), (marks g s n)[i] = g (s + i)
  | 0, _, i, h => by simp [marks] at h
  | n + 1, s, 0, _ => by simp [marks]
  | n + 1, s, i + 1, h => by
    simp only [marks, List.getElem_cons_succ]
    rw [marks_get g n (s + 1) i (by simpa [marks] using h)]; congr 1; omega
theorem mark_ev (g : Int → Int) {L : Nat → List Int → Int → Int → Option (Int × List Int)}
    (hL : ∀ k x0 x1 x5, L (k + 1) x0 x1 x5 = if x5 < (x0.length : Int) then (if 0 ≤ x5 then (L k (x0.set (x5 : Int).toNat (g x1)) (wrap64 (x1 + 1)) (wrap64 (x5 + 1))) else none) else some (x1, x0))
    (l : List Int) (s : Int) (h0 : 0 ≤ s) (hl : s + l.length ≤ 9223372036854775806) : Ev (fun k => L k l s 0) (s + l.length, marks g s l.length) := by
  have key : ∀ x : List Int, x.length = l.length → x.take 0 = (marks g s l.length).take 0 → Ev (fun k => L k x (s + ((0 : Nat) : Int)) ((0 : Nat) : Int)) (s + l.length, marks g s l.length) := by
    refine down (P := fun i => ∀ x : List Int, x.length = l.length → x.take i = (marks g s l.length).take i → Ev (fun k => L k x (s + (i : Int)) (i : Int)) (s + l.length, marks g s l.length)) l.length ?_ ?_
    · intro x hx ht
      have h1 : x.take l.length = x := List.take_of_length_le (by omega)
      have h2 : (marks g s l.length).take l.length = marks g s l.length := List.take_of_length_le (by rw [marks_len]; omega)
      rw [h1, h2] at ht; subst ht
      exact Ev.step (f := fun _ => some (s + (l.length : Int), marks g s l.length)) (fun k => by rw [hL, if_neg (by omega)]) (Ev.now _)
    · intro i hi ih x hx ht
      refine Ev.step (f := fun k => L k (x.set i (g (s + i))) (s + ((i + 1 : Nat) : Int)) ((i + 1 : Nat) : Int)) (fun k => ?_) (ih _ (by simpa using hx) ?_)
      · rw [hL, if_pos (by omega), if_pos (by omega), w64 (x := s + i + 1) (by omega) (by omega), w64 (by omega) (by omega), Int.toNat_natCast, show s + (i : Int) + 1 = s + ((i + 1 : Nat) : Int) by omega]; rfl
      · rw [List.take_succ_eq_append_getElem (by simp; omega), List.take_succ_eq_append_getElem (by rw [marks_len]; omega), List.take_set_of_le (by omega), ht, marks_get]
        simp
  have := key l rfl (by simp)
  simpa using this
theorem held_ev (g : Int → Int) {L : Nat → List Int → Int → Int → Option Int}
    (hL : ∀ k x0 x1 x5, L (k + 1) x0 x1 x5 = if x5 < (x0.length : Int) then (if 0 ≤ x5 then (if (rd x0 x5) = g x1 then (L k x0 (wrap64 (x1 + 1)) (wrap64 (x5 + 1))) else some (-1)) else none) else some x1)
    (n : Nat) (s : Int) (h0 : 0 ≤ s) (hl : s + n ≤ 9223372036854775806) : Ev (fun k => L k (marks g s n) s 0) (s + n) := by
  have key : Ev (fun k => L k (marks g s n) (s + ((0 : Nat) : Int)) ((0 : Nat) : Int)) (s + n) := by
    refine down (P := fun i => Ev (fun k => L k (marks g s n) (s + (i : Int)) (i : Int)) (s + n)) n ?_ ?_
    · exact Ev.step (f := fun _ => some (s + (n : Int))) (fun k => by rw [hL, if_neg (by rw [marks_len]; omega)]) (Ev.now _)
    · intro i hi ih
      refine Ev.step (f := fun k => L k (marks g s n) (s + ((i + 1 : Nat) : Int)) ((i + 1 : Nat) : Int)) (fun k => ?_) ih
      have hm := marks_len g n s
      rw [hL, if_pos (by omega), if_pos (by omega), rd_nat _ i (by omega), marks_get, if_pos rfl, w64 (x := s + i + 1) (by omega) (by omega), w64 (by omega) (by omega), show s + (i : Int) + 1 = s + ((i + 1 : Nat) : Int) by omega]; rfl
  simpa using key
/-- A loop that marks elements, w numbers each. -/
def marksG {β : Type} (mk : β → Int → β) (w : Nat) (s : Int) : List β → List β
  | [] => []
  | b :: r => mk b s :: marksG mk w (s + w) r
end Go.Proofs.YtkehfdadplpaeaaDoor.Hlp
