/- FnExactGetNumber: at every list of bytes the program's GetNumber returns what the reference's returns, and the bytes stay as they were. -/
import Derived.Test.YtdkjidnagkcenaaPFnExactGetNumberx2
import Derived.Test.YtdkjidnagkcenaaHlp
namespace Go.Proofs.Ytdkjidnagkcenaa.Pure
open Go.RowKit Go.Proofs.Ytdkjidnagkcenaa.PFnExactGetNumber Go.Proofs.YtdkjidnagkcenaaW.PrintWords Go.Proofs.YtdkjidnagkcenaaW.PrintLast Go.Proofs.YtdkjidnagkcenaaW.PrintMore Go.Proofs.Ytdkjidnagkcenaa.Hlp
namespace GN
/-- The number that the bytes say, the first the greatest. -/
def val (l : List Int) : Int := l.foldl (fun v c => v * 256 + c) 0
theorem val_nil : val [] = 0 := rfl
theorem val_snoc (l : List Int) (c : Int) : val (l ++ [c]) = val l * 256 + c := by unfold val; rw [List.foldl_append]; rfl
theorem val_bd (l : List Int) (hb : ∀ x ∈ l, 0 ≤ x ∧ x ≤ 255) (n : Nat) : n ≤ l.length → 0 ≤ val (l.take n) ∧ val (l.take n) < 256 ^ n := by
  induction n with
  | zero => intro _; simp [val]
  | succ n ih =>
    intro h
    have := ih (by omega)
    rw [List.take_succ_eq_append_getElem (by omega), val_snoc, Int.pow_succ]
    have := hb l[n] (List.getElem_mem _)
    omega
theorem val_take_lt (l : List Int) (hb : ∀ x ∈ l, 0 ≤ x ∧ x ≤ 255) (h8 : l.length ≤ 8) (ht : l.length = 8 → rd l 0 ≤ 127) (n : Nat) (hn : n < l.length) : 0 ≤ val (l.take n) ∧ val (l.take n) < 2 ^ 55 ∧ 0 ≤ l[n] ∧ l[n] ≤ 255 := by
  have h := val_bd l hb n (by omega)
  have hc := hb l[n] (List.getElem_mem _)
  refine ⟨h.1, ?_, hc.1, hc.2⟩
  by_cases h7 : n = 7
  · subst h7
    have h1 := ht (by omega)
    match l, hn with
    | a :: b :: c :: d :: e :: f :: g :: r, _ =>
      have ha := hb a (by simp); have hb1 := hb b (by simp); have hc1 := hb c (by simp); have hd1 := hb d (by simp); have he := hb e (by simp); have hf := hb f (by simp); have hg := hb g (by simp)
      have h1' : a ≤ 127 := h1
      show val [a, b, c, d, e, f, g] < 2 ^ 55
      simp only [val, List.foldl]; omega
  · have h6 : n = 0 ∨ n = 1 ∨ n = 2 ∨ n = 3 ∨ n = 4 ∨ n = 5 ∨ n = 6 := by omega
    have h2 := h.2
    rcases h6 with e | e | e | e | e | e | e <;> rw [e] at h2 ⊢ <;> omega
theorem spec_loop (l : List Int) (hb : ∀ x ∈ l, 0 ≤ x ∧ x ≤ 255) (h8 : l.length ≤ 8) (ht : l.length = 8 → rd l 0 ≤ 127) (d : Nat) : ∀ n : Nat, n + d = l.length → Ev (fun k => spec_GetNumber.l0 k l (val (l.take n)) (n : Int)) (val l) := by
  induction d with
  | zero =>
    intro n hn
    have : l.take n = l := List.take_of_length_le (by omega)
    rw [this]
    exact Ev.step (f := fun _ => some (val l)) (fun k => by simp only [spec_GetNumber.l0]; rw [if_neg (by omega)]) (Ev.now _)
  | succ d ih =>
    intro n hn
    have hv := val_take_lt l hb h8 ht n (by omega)
    refine Ev.step (f := fun k => spec_GetNumber.l0 k l (val (l.take (n + 1))) ((n + 1 : Nat) : Int)) (fun k => ?_) (ih (n + 1) (by omega))
    simp only [spec_GetNumber.l0]
    rw [if_pos (by omega), if_pos (by omega), rd_nat l n (by omega), List.take_succ_eq_append_getElem (by omega), val_snoc]
    rw [w64 (x := val (l.take n) * 256) (by omega) (by omega), w64 (x := l[n]) (by omega) (by omega), w64 (by omega) (by omega), w64 (by omega) (by omega)]
    rfl
theorem impl_loop (l : List Int) (hb : ∀ x ∈ l, 0 ≤ x ∧ x ≤ 255) (h8 : l.length ≤ 8) (ht : l.length = 8 → rd l 0 ≤ 127) (d : Nat) : ∀ n : Nat, n + d = l.length → Ev (fun k => impl_GetNumber.l0 k (val (l.take n)) l (l.length : Int) (n : Int)) (val l) := by
  induction d with
  | zero =>
    intro n hn
    have : l.take n = l := List.take_of_length_le (by omega)
    rw [this]
    exact Ev.step (f := fun _ => some (val l)) (fun k => by simp only [impl_GetNumber.l0]; rw [if_neg (by omega)]) (Ev.now _)
  | succ d ih =>
    intro n hn
    have hv := val_take_lt l hb h8 ht n (by omega)
    refine Ev.step (f := fun k => impl_GetNumber.l0 k (val (l.take (n + 1))) l (l.length : Int) ((n + 1 : Nat) : Int)) (fun k => ?_) (ih (n + 1) (by omega))
    simp only [impl_GetNumber.l0]
    rw [if_pos (by omega), if_pos (by omega), if_pos (by omega), rd_nat l n (by omega), List.take_succ_eq_append_getElem (by omega), val_snoc]
    rw [w64 (x := val (l.take n) * 256) (by omega) (by omega), w64 (x := l[n]) (by omega) (by omega), i64_orb _ _ hv.1 hv.2.1 hv.2.2.1 (by omega), w64 (by omega) (by omega)]
    rfl
/-- What both say. -/
def numOf (l : List Int) : Int := if l.length = 0 ∨ l.length > 8 ∨ (l.length = 8 ∧ rd l 0 > 127) then -1 else val l
theorem spec_ev (l : List Int) (hb : ∀ x ∈ l, 0 ≤ x ∧ x ≤ 255) : Ev (fun k => spec_GetNumber.f k l) (numOf l) := by
  have hj : ∀ k b, spec_GetNumber.j0 (k + 1) l b = if b = true then (some (-1)) else (spec_GetNumber.l0 k l 0 0) := fun _ _ => rfl
  by_cases h : l.length = 0 ∨ l.length > 8 ∨ (l.length = 8 ∧ rd l 0 > 127)
  · have : numOf l = -1 := by unfold numOf; rw [if_pos h]
    rw [this]
    refine Ev.step (f := fun _ => some (-1)) (fun k => ?_) (Ev.now _)
    unfold spec_GetNumber.f
    rcases h with h | h | ⟨h, h2⟩
    · rw [if_pos (by omega), hj, if_pos rfl]
    · rw [if_neg (by omega), if_pos (by omega), hj, if_pos rfl]
    · rw [if_neg (by omega), if_neg (by omega), if_pos (by omega), if_pos (by omega), hj, if_pos (decide_eq_true h2)]
  · have : numOf l = val l := by unfold numOf; rw [if_neg h]
    rw [this]
    refine Ev.step (f := fun k => spec_GetNumber.l0 k l (val (l.take 0)) ((0 : Nat) : Int)) (fun k => ?_) (spec_loop l hb (by omega) (by omega) l.length 0 (by omega))
    unfold spec_GetNumber.f
    rw [if_neg (by omega), if_neg (by omega)]
    by_cases h8 : l.length = 8
    · rw [if_pos (by omega), if_pos (by omega), hj, if_neg (by simp; omega)]; rfl
    · rw [if_neg (by omega), hj, if_neg (by simp)]; rfl
theorem impl_ev (l : List Int) (hb : ∀ x ∈ l, 0 ≤ x ∧ x ≤ 255) : Ev (fun k => impl_GetNumber.f k l) (numOf l) := by
  have hj : ∀ k b, impl_GetNumber.j0 (k + 1) l b = if b = true then (some (-1)) else (impl_GetNumber.l0 k 0 l (l.length : Int) 0) := fun _ _ => rfl
  by_cases h : l.length = 0 ∨ l.length > 8 ∨ (l.length = 8 ∧ rd l 0 > 127)
  · have : numOf l = -1 := by unfold numOf; rw [if_pos h]
    rw [this]
    refine Ev.step (f := fun _ => some (-1)) (fun k => ?_) (Ev.now _)
    unfold impl_GetNumber.f
    rcases h with h | h | ⟨h, h2⟩
    · rw [if_pos (by omega), hj, if_pos rfl]
    · rw [if_neg (by omega), if_pos (by omega), hj, if_pos rfl]
    · rw [if_neg (by omega), if_neg (by omega), if_pos (by omega), if_pos (by omega), hj, if_pos (decide_eq_true (by omega))]
  · have : numOf l = val l := by unfold numOf; rw [if_neg h]
    rw [this]
    refine Ev.step (f := fun k => impl_GetNumber.l0 k (val (l.take 0)) l (l.length : Int) ((0 : Nat) : Int)) (fun k => ?_) (impl_loop l hb (by omega) (by omega) l.length 0 (by omega))
    unfold impl_GetNumber.f
    rw [if_neg (by omega), if_neg (by omega)]
    by_cases h8 : l.length = 8
    · rw [if_pos (by omega), if_pos (by omega), hj, if_neg (by simp; omega)]; rfl
    · rw [if_neg (by omega), hj, if_neg (by simp)]; rfl
end GN
theorem FnExactGetNumber : laws_FnExactGetNumber.Pure := by
  intro l _ hl hb
  by_cases h : (l.length : Int) > 1048576
  · exact ⟨0, by unfold laws_FnExactGetNumber.f; rw [if_pos h]⟩
  have hb' : ∀ x ∈ l, 0 ≤ x ∧ x ≤ 255 := fun x hx => wfb (hb x hx)
  have t := toS_ev (F := laws_toByteS.f) (fun _ _ => rfl) (fun _ _ _ _ => rfl) l (by omega) (by omega)
  have e := eqS_ev (F := laws_eqByteS.f) (fun _ _ _ => rfl) (fun _ _ _ _ => rfl) l (by omega)
  refine Ev.rounds (Ev.congr (fun k => by unfold laws_FnExactGetNumber.f; rw [if_neg h]) ?_)
  refine t.bind ((GN.spec_ev l hb').bind (t.bind ((GN.impl_ev l hb').bind ?_)))
  refine Ev.congr (fun k => by rw [if_pos rfl]) ?_
  exact t.bind (e.bind (Ev.now true))
end Go.Proofs.Ytdkjidnagkcenaa.Pure
