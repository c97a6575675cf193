/- FnExactDecodeInode: at every list of bytes the program's DecodeInode returns what the reference's returns, in memory of its own, and the bytes stay as they were. -/
import Derived.Test.YtplefdkookhlhaaPFnExactDecodeInodex
import Derived.Test.YtplefdkookhlhaaVDIHlp2
namespace Go.Proofs.Ytplefdkookhlhaa.Pure
open Go.RowKit Go.Proofs.Ytplefdkookhlhaa.PFnExactDecodeInode Go.Proofs.YtplefdkookhlhaaW.PrintWords Go.Proofs.YtplefdkookhlhaaW.PrintLast Go.Proofs.YtplefdkookhlhaaW.PrintMore Go.Proofs.Ytplefdkookhlhaa.Hlp
set_option linter.unusedVariables false
namespace VI
def gb (x : Int) : Prop := 0 ≤ x ∧ x < 2048
instance (x : Int) : Decidable (gb x) := by unfold gb; infer_instance
theorem spec_gb (x : Int) : spec_l3GoodBlock.f x = some (decide (gb x)) := by
  unfold spec_l3GoodBlock.f
  by_cases c : x ≥ 0
  · rw [if_pos c, show decide (x < 2048) = decide (gb x) from decide_eq_decide.2 (by unfold gb; omega)]
  · rw [if_neg c, show decide (gb x) = false from decide_eq_false (by unfold gb; omega)]
theorem impl_in_ (x a b : Int) : impl_in.f x a b = some (decide (a ≤ x ∧ x ≤ b)) := by
  unfold impl_in.f
  by_cases c : x ≥ a
  · rw [if_pos c]; congr 1; rw [decide_eq_decide]; omega
  · rw [if_neg c]; congr 1; rw [eq_comm, decide_eq_false_iff_not]; omega
/-- What the reference asks of the place j. -/
def cS (m s : Int) (xs : List Int) (j : Nat) : Prop := ((j : Int) * 64 ≥ s → rd xs j = 0) ∧ ((j : Int) * 64 < s → m ≠ 1 → rd xs j ≠ 0)
/-- What the program asks of the place j. -/
def cI (m s : Int) (xs : List Int) (j : Nat) : Prop := gb (rd xs j) ∧ (m ≠ 0 → (j : Int) * 64 ≥ s → rd xs j = 0) ∧ ((m = 2 ∨ m = 3) → (j : Int) * 64 < s → rd xs j ≠ 0)
theorem spec_l0 (m k0 s : Int) (l : List Int) (d : Int) (xs : List Int) (hx : xs.length = 9) (r : Bool) : ∀ t, 0 ≤ t → t ≤ 2568 →
    ((∃ x ∈ xs, ¬ gb x) → Ev (fun k => spec_ValidInode.l0 k xs t 0 m k0 s l d) false) ∧ ((∀ x ∈ xs, gb x) → Ev (fun k => spec_ValidInode.l0 k xs (t + xs.sum) 9 m k0 s l d) r → Ev (fun k => spec_ValidInode.l0 k xs t 0 m k0 s l d) r) := by
  have key := down (P := fun i => ∀ t, 0 ≤ t → t ≤ 2568 + 2047 * (i : Int) →
    ((∃ x ∈ xs.drop i, ¬ gb x) → Ev (fun k => spec_ValidInode.l0 k xs t (i : Int) m k0 s l d) false) ∧ ((∀ x ∈ xs.drop i, gb x) → Ev (fun k => spec_ValidInode.l0 k xs (t + (xs.drop i).sum) 9 m k0 s l d) r → Ev (fun k => spec_ValidInode.l0 k xs t (i : Int) m k0 s l d) r)) xs.length ?_ ?_
  · intro t h0 h1
    have := key t h0 (by omega)
    simpa using this
  · intro t h0 h1
    rw [List.drop_length]
    refine ⟨fun ⟨x, hx, _⟩ => (by cases hx), fun _ h => ?_⟩
    rw [hx]; simpa using h
  · intro i hi ih t h0 h1
    have hw : wrap64 ((i : Int) + 1) = ((i + 1 : Nat) : Int) := by rw [w64 (by omega) (by omega)]; rfl
    rw [List.drop_eq_getElem_cons hi]
    by_cases g : gb xs[i]
    · have g' := g
      unfold gb at g'
      have hw2 : wrap64 (t + xs[i]) = t + xs[i] := w64 (by omega) (by omega)
      obtain ⟨h2, h3⟩ := ih (t + xs[i]) (by omega) (by omega)
      have st : ∀ q, Ev (fun k => spec_ValidInode.l0 k xs (t + xs[i]) ((i + 1 : Nat) : Int) m k0 s l d) q → Ev (fun k => spec_ValidInode.l0 k xs t (i : Int) m k0 s l d) q := fun q h =>
        Ev.step (fun k => by simp only [spec_ValidInode.l0]; rw [if_pos (by omega), if_pos (by omega), spec_gb, rd_nat xs i hi, Option.bind_some, if_pos (decide_eq_true g), hw, hw2]) h
      refine ⟨fun ⟨x, hx, hn⟩ => st _ (h2 ?_), fun ha h => st _ (h3 (fun x hx => ha x (List.mem_cons_of_mem _ hx)) ?_)⟩
      · rcases List.mem_cons.1 hx with rfl | hx
        · exact absurd g hn
        · exact ⟨x, hx, hn⟩
      · rw [List.sum_cons] at h
        rw [Int.add_assoc]; exact h
    · refine ⟨fun _ => ?_, fun ha => absurd (ha _ List.mem_cons_self) g⟩
      exact Ev.step (f := fun _ => some false) (fun k => by simp only [spec_ValidInode.l0]; rw [if_pos (by omega), if_pos (by omega), spec_gb, rd_nat xs i hi, Option.bind_some, if_neg (by simpa using g)]) (Ev.now _)
theorem spec_l1 (m k0 s : Int) (l : List Int) (d : Int) (xs : List Int) (hx : xs.length = 9) :
    ((∃ j, j < 9 ∧ ¬ cS m s xs j) → Ev (fun k => spec_ValidInode.l1 k xs 0 m k0 s l d) false) ∧ ((∀ j, j < 9 → cS m s xs j) → Ev (fun k => spec_ValidInode.l1 k xs 0 m k0 s l d) (decide (k0 ≥ 1 ∨ m = 1))) := by
  have key := down (P := fun i => ((∃ j, i ≤ j ∧ j < 9 ∧ ¬ cS m s xs j) → Ev (fun k => spec_ValidInode.l1 k xs (i : Int) m k0 s l d) false) ∧ ((∀ j, i ≤ j → j < 9 → cS m s xs j) → Ev (fun k => spec_ValidInode.l1 k xs (i : Int) m k0 s l d) (decide (k0 ≥ 1 ∨ m = 1)))) 9 ?_ ?_
  · refine ⟨fun ⟨j, h1, h2⟩ => key.1 ⟨j, by omega, h1, h2⟩, fun h => key.2 (fun j _ h1 => h j h1)⟩
  · refine ⟨fun ⟨j, h1, h2, _⟩ => by omega, fun _ => ?_⟩
    by_cases c : k0 ≥ 1
    · rw [decide_eq_true (Or.inl c)]
      exact Ev.step (f := fun _ => some true) (fun k => by simp only [spec_ValidInode.l1]; rw [if_neg (by omega), if_pos c]) (Ev.now _)
    · refine Ev.step (f := fun _ => some (decide (k0 ≥ 1 ∨ m = 1))) (fun k => ?_) (Ev.now _)
      simp only [spec_ValidInode.l1]; rw [if_neg (by omega), if_neg c]
      congr 1
      by_cases e : m = 1
      · rw [decide_eq_true (Or.inr e), show (m == 1) = true by simpa using e]
      · rw [decide_eq_false (by omega), show (m == 1) = false by simpa using e]
  · intro i hi ⟨h1, h2⟩
    have hw : wrap64 ((i : Int) + 1) = ((i + 1 : Nat) : Int) := by rw [w64 (by omega) (by omega)]; rfl
    have hw2 : wrap64 ((i : Int) * 64) = (i : Int) * 64 := w64 (by omega) (by omega)
    by_cases c : cS m s xs i
    · have st : ∀ q, Ev (fun k => spec_ValidInode.l1 k xs ((i + 1 : Nat) : Int) m k0 s l d) q → Ev (fun k => spec_ValidInode.l1 k xs (i : Int) m k0 s l d) q := fun q h => Ev.step (fun k => by
        simp only [spec_ValidInode.l1]
        rw [if_pos (by omega), hw2, hw]
        by_cases e : (i : Int) * 64 ≥ s
        · rw [if_pos e, if_pos (by omega), if_pos (by omega), if_pos (c.1 e), if_pos e]
        · rw [if_neg e, if_neg e]
          by_cases e2 : m = 1
          · rw [if_pos e2]
          · rw [if_neg e2, if_pos (by omega), if_pos (by omega), if_neg (c.2 (by omega) e2)]) h
      refine ⟨fun ⟨j, a, b, h⟩ => st _ (h1 ⟨j, ?_, b, h⟩), fun h => st _ (h2 (fun j a b => h j (by omega) b))⟩
      rcases Nat.eq_or_lt_of_le a with rfl | a
      · exact absurd c h
      · exact a
    · refine ⟨fun _ => ?_, fun h => absurd (h i (Nat.le_refl _) hi) c⟩
      refine Ev.step (f := fun _ => some false) (fun k => ?_) (Ev.now _)
      simp only [spec_ValidInode.l1]
      rw [if_pos (by omega), hw2, hw]
      by_cases e : (i : Int) * 64 ≥ s
      · have e3 : ¬ rd xs i = 0 := fun h => c ⟨fun _ => h, fun h2 => by omega⟩
        rw [if_pos e, if_pos (by omega), if_pos (by omega), if_neg e3]
      · rw [if_neg e, if_neg e]
        by_cases e2 : m = 1
        · exact absurd ⟨fun h => absurd h e, fun _ h => absurd e2 h⟩ c
        · have e3 : rd xs i = 0 := by
            by_cases h : rd xs i = 0
            · exact h
            · exact absurd ⟨fun h => absurd h e, fun _ _ => h⟩ c
          rw [if_neg e2, if_pos (by omega), if_pos (by omega), if_pos e3]
def fullS (m k0 s : Int) (l : List Int) (d : Int) : Prop := l.length = 8 ∧ 0 ≤ s ∧ s ≤ 2560 ∧ 0 ≤ k0 ∧ k0 ≤ 8 ∧ (∀ x ∈ l ++ [d], gb x) ∧
  ((m = 0 ∧ s + k0 + (l ++ [d]).sum = 0) ∨ ((m = 1 ∨ (m = 2 ∧ k0 = 1 ∧ s % 16 = 0) ∨ (m = 3 ∧ 1 ≤ s ∧ s ≤ 240)) ∧ (∀ j, j < 9 → cS m s (l ++ [d]) j) ∧ (k0 ≥ 1 ∨ m = 1)))
def fullI (m k0 s : Int) (l : List Int) (d : Int) : Prop := l.length = 8 ∧ gb d ∧ (∀ j, j < 8 → cI m s l j) ∧
  ((m = 0 ∧ k0 = 0 ∧ s = 0 ∧ d = 0 ∧ ∀ j : Nat, j < 8 → rd l j = 0) ∨ ((m = 1 ∨ (m = 2 ∧ k0 = 1 ∧ s % 16 = 0) ∨ (m = 3 ∧ 1 ≤ s ∧ s ≤ 240)) ∧ (if m = 1 then 0 else 1) ≤ k0 ∧ k0 ≤ 8 ∧ 0 ≤ s ∧ s ≤ 2560 ∧ (s ≤ 512 → d = 0) ∧ (512 < s → m ≠ 1 → d ≠ 0)))
theorem mem_rd (l : List Int) (x : Int) : x ∈ l ↔ ∃ j : Nat, j < l.length ∧ rd l j = x := by
  constructor
  · intro h
    obtain ⟨j, hj, rfl⟩ := List.getElem_of_mem h
    exact ⟨j, hj, rd_nat l j hj⟩
  · rintro ⟨j, hj, rfl⟩
    rw [rd_nat l j hj]; exact List.getElem_mem _
theorem rd_app (l : List Int) (d : Int) (h : l.length = 8) : (∀ j : Nat, j < 8 → rd (l ++ [d]) j = rd l j) ∧ rd (l ++ [d]) ((8 : Nat) : Int) = d := by
  constructor
  · intro j hj
    rw [rd_nat _ j (by simp; omega), rd_nat l j (by omega), List.getElem_append_left]
  · rw [rd_nat _ 8 (by simp; omega), List.getElem_append_right (by omega)]; simp
theorem sum_zero (l : List Int) (h : ∀ x ∈ l, 0 ≤ x) : 0 ≤ l.sum ∧ (l.sum = 0 ↔ ∀ x ∈ l, x = 0) := by
  induction l with
  | nil => simp
  | cons a r ih =>
    obtain ⟨h1, h2⟩ := ih (fun x hx => h x (List.mem_cons_of_mem _ hx))
    have ha := h a List.mem_cons_self
    rw [List.sum_cons]
    refine ⟨by omega, fun e x hx => ?_, fun e => ?_⟩
    · rcases List.mem_cons.1 hx with rfl | hx
      · omega
      · exact h2.1 (by omega) x hx
    · have := e a List.mem_cons_self
      have := h2.2 (fun x hx => e x (List.mem_cons_of_mem _ hx))
      omega
theorem full_iff (m k0 s : Int) (l : List Int) (d : Int) : fullS m k0 s l d ↔ fullI m k0 s l d := by
  unfold fullS fullI
  constructor
  · rintro ⟨hl, h1, h2, h3, h4, hg, hk⟩
    obtain ⟨ra, rb⟩ := rd_app l d hl
    have gl : ∀ j : Nat, j < 8 → gb (rd l j) := fun j hj => hg _ (List.mem_append_left _ ((mem_rd l _).2 ⟨j, by omega, rfl⟩))
    have gd : gb d := hg d (by simp)
    rcases hk with ⟨hm, hz⟩ | ⟨hm, hc, hk⟩
    · obtain ⟨z1, z2⟩ := sum_zero (l ++ [d]) (fun x hx => (hg x hx).1)
      have z3 := z2.1 (by omega)
      have zl : ∀ j : Nat, j < 8 → rd l j = 0 := fun j hj => z3 _ (List.mem_append_left _ ((mem_rd l _).2 ⟨j, by omega, rfl⟩))
      exact ⟨hl, gd, fun j hj => ⟨gl j hj, fun h => absurd hm h, fun h => by omega⟩, Or.inl ⟨hm, by omega, by omega, z3 d (by simp), zl⟩⟩
    · refine ⟨hl, gd, fun j hj => ⟨gl j hj, fun _ h => ?_, fun h1 h2 => ?_⟩, Or.inr ⟨hm, ?_, h4, h1, h2, fun h => ?_, fun h5 h6 => ?_⟩⟩
      · have := (hc j (by omega)).1 h; rwa [ra j hj] at this
      · have := (hc j (by omega)).2 h2 (by omega); rwa [ra j hj] at this
      · split <;> omega
      · have := (hc 8 (by omega)).1 (by omega); rwa [rb] at this
      · have := (hc 8 (by omega)).2 (by omega) h6; rwa [rb] at this
  · rintro ⟨hl, gd, hi, hk⟩
    obtain ⟨ra, rb⟩ := rd_app l d hl
    have hg : ∀ x ∈ l ++ [d], gb x := by
      intro x hx
      rcases List.mem_append.1 hx with hx | hx
      · obtain ⟨j, hj, rfl⟩ := (mem_rd l x).1 hx
        exact (hi j (by omega)).1
      · rw [List.mem_singleton.1 hx]; exact gd
    rcases hk with ⟨hm, h1, h2, h3, h4⟩ | ⟨hm, h1, h2, h3, h4, h5, h6⟩
    · refine ⟨hl, by omega, by omega, by omega, by omega, hg, Or.inl ⟨hm, ?_⟩⟩
      have := (sum_zero (l ++ [d]) (fun x hx => (hg x hx).1)).2.2 (fun x hx => ?_)
      · omega
      · rcases List.mem_append.1 hx with hx | hx
        · obtain ⟨j, hj, rfl⟩ := (mem_rd l x).1 hx
          exact h4 j (by omega)
        · rw [List.mem_singleton.1 hx]; exact h3
    · have hk : k0 ≥ 1 ∨ m = 1 := by split at h1 <;> omega
      refine ⟨hl, h3, h4, by split at h1 <;> omega, h2, hg, Or.inr ⟨hm, fun j hj => ?_, hk⟩⟩
      rcases Nat.lt_or_ge j 8 with h | h
      · obtain ⟨_, b, c⟩ := hi j h
        unfold cS
        rw [ra j h]
        exact ⟨fun e => b (by omega) e, fun e e2 => c (by omega) e⟩
      · have : j = 8 := by omega
        subst this
        unfold cS
        rw [rb]
        exact ⟨fun e => h5 (by omega), fun e e2 => h6 (by omega) e2⟩
open Classical in
noncomputable def val (m k0 s : Int) (l : List Int) (d : Int) : Bool := decide (fullS m k0 s l d)
open Classical in
theorem val_t {m k0 s : Int} {l : List Int} {d : Int} (h : fullS m k0 s l d) : val m k0 s l d = true := by unfold val; exact decide_eq_true h
open Classical in
theorem val_f {m k0 s : Int} {l : List Int} {d : Int} (h : ¬ fullS m k0 s l d) : val m k0 s l d = false := by unfold val; exact decide_eq_false h
theorem spec_ev (m k0 s : Int) (l : List Int) (d : Int) : Ev (fun k => spec_ValidInode.f k m k0 s l d) (val m k0 s l d) := by
  have jt : Ev (fun k => spec_ValidInode.j0 k true m k0 s l d) false := Ev.step (f := fun _ => some false) (fun k => by simp only [spec_ValidInode.j0]; rw [if_pos trivial]) (Ev.now _)
  by_cases hl : (l.length : Int) = 8
  rotate_left
  · rw [val_f (fun h => hl (by have := h.1; omega))]
    exact Ev.congr (fun k => by unfold spec_ValidInode.f; rw [if_neg hl]) jt
  by_cases c1 : s < 0
  · rw [val_f (fun h => by have := h.2.1; omega)]
    exact Ev.congr (fun k => by unfold spec_ValidInode.f; rw [if_pos hl, if_pos c1]) jt
  by_cases c2 : s > 2560
  · rw [val_f (fun h => by have := h.2.2.1; omega)]
    exact Ev.congr (fun k => by unfold spec_ValidInode.f; rw [if_pos hl, if_neg c1, if_pos c2]) jt
  by_cases c3 : k0 < 0
  · rw [val_f (fun h => by have := h.2.2.2.1; omega)]
    exact Ev.congr (fun k => by unfold spec_ValidInode.f; rw [if_pos hl, if_neg c1, if_neg c2, if_pos c3]) jt
  by_cases c4 : k0 > 8
  · rw [val_f (fun h => by have := h.2.2.2.2.1; omega)]
    exact Ev.congr (fun k => by unfold spec_ValidInode.f; rw [if_pos hl, if_neg c1, if_neg c2, if_neg c3, decide_eq_true c4]) jt
  refine Ev.congr (fun k => by unfold spec_ValidInode.f; rw [if_pos hl, if_neg c1, if_neg c2, if_neg c3, decide_eq_false c4]) ?_
  have hx : (l ++ [d]).length = 9 := by simp; omega
  refine Ev.step (f := fun k => spec_ValidInode.l0 k (l ++ [d]) (s + k0) 0 m k0 s l d) (fun k => by
    simp only [spec_ValidInode.j0, Option.bind_some, List.nil_append]
    rw [if_neg (by decide), if_pos (by simp; omega), if_pos (by omega), w64 (x := s + k0) (by omega) (by omega)]) ?_
  have L := fun r => spec_l0 m k0 s l d (l ++ [d]) hx r (s + k0) (by omega) (by omega)
  by_cases hg : ∀ x ∈ l ++ [d], gb x
  rotate_left
  · rw [val_f (fun h => hg h.2.2.2.2.2.1)]
    refine (L false).1 ?_
    by_cases h : ∃ x ∈ l ++ [d], ¬ gb x
    · exact h
    · exact absurd (fun x hx => by
        by_cases g : gb x
        · exact g
        · exact absurd ⟨x, hx, g⟩ h) hg
  refine (L _).2 hg ?_
  have z := sum_zero (l ++ [d]) (fun x hx => (hg x hx).1)
  have base : (l.length = 8 ∧ 0 ≤ s ∧ s ≤ 2560 ∧ 0 ≤ k0 ∧ k0 ≤ 8 ∧ (∀ x ∈ l ++ [d], gb x)) := ⟨by omega, by omega, by omega, by omega, by omega, hg⟩
  have fin : ∀ (hm : m = 1 ∨ (m = 2 ∧ k0 = 1 ∧ s % 16 = 0) ∨ (m = 3 ∧ 1 ≤ s ∧ s ≤ 240)), Ev (fun k => spec_ValidInode.j2 k (l ++ [d]) m k0 s l d) (val m k0 s l d) := fun hm => by
    have q := spec_l1 m k0 s l d (l ++ [d]) hx
    refine Ev.step (f := fun k => spec_ValidInode.l1 k (l ++ [d]) 0 m k0 s l d) (fun k => rfl) ?_
    by_cases hc : ∀ j, j < 9 → cS m s (l ++ [d]) j
    · by_cases hk : k0 ≥ 1 ∨ m = 1
      · rw [val_t ⟨base.1, base.2.1, base.2.2.1, base.2.2.2.1, base.2.2.2.2.1, hg, Or.inr ⟨hm, hc, hk⟩⟩]
        have := q.2 hc
        rwa [decide_eq_true hk] at this
      · rw [val_f (fun h => by
          rcases h.2.2.2.2.2.2 with ⟨a, _⟩ | ⟨_, _, b⟩
          · omega
          · exact hk b)]
        have := q.2 hc
        rwa [decide_eq_false hk] at this
    · rw [val_f (fun h => by
          rcases h.2.2.2.2.2.2 with ⟨a, _⟩ | ⟨_, b, _⟩
          · omega
          · exact hc b)]
      refine q.1 ?_
      by_cases h : ∃ j, j < 9 ∧ ¬ cS m s (l ++ [d]) j
      · exact h
      · exact absurd (fun j hj => by
          by_cases g : cS m s (l ++ [d]) j
          · exact g
          · exact absurd ⟨j, hj, g⟩ h) hc
  have no : ¬ (m = 0) → ¬ (m = 1 ∨ (m = 2 ∧ k0 = 1 ∧ s % 16 = 0) ∨ (m = 3 ∧ 1 ≤ s ∧ s ≤ 240)) → val m k0 s l d = false := fun n0 n1 => val_f (fun h => by
    rcases h.2.2.2.2.2.2 with ⟨a, _⟩ | ⟨b, _, _⟩
    · exact n0 a
    · exact n1 b)
  have tm : Int.tmod s 16 = s % 16 := Int.tmod_eq_emod_of_nonneg (by omega)
  by_cases m0 : m = 0
  · refine Ev.step (f := fun _ => some (s + k0 + (l ++ [d]).sum == 0)) (fun k => by simp only [spec_ValidInode.l0]; rw [if_neg (by omega), if_pos m0]) ?_
    by_cases e : s + k0 + (l ++ [d]).sum = 0
    · rw [val_t ⟨base.1, base.2.1, base.2.2.1, base.2.2.2.1, base.2.2.2.2.1, hg, Or.inl ⟨m0, e⟩⟩, show (s + k0 + (l ++ [d]).sum == 0) = true by simpa using e]
      exact Ev.now _
    · rw [val_f (fun h => by
        rcases h.2.2.2.2.2.2 with ⟨_, a⟩ | ⟨b, _, _⟩
        · exact e a
        · omega), show (s + k0 + (l ++ [d]).sum == 0) = false by simpa using e]
      exact Ev.now _
  by_cases m1 : m = 1
  · exact Ev.step (fun k => by simp only [spec_ValidInode.l0]; rw [if_neg (by omega), if_neg m0, if_pos m1]) (fin (Or.inl m1))
  by_cases m2 : m = 2
  · by_cases k1 : k0 = 1
    · by_cases t : s % 16 = 0
      · exact Ev.step (fun k => by simp only [spec_ValidInode.l0]; rw [if_neg (by omega), if_neg m0, if_neg m1, if_pos m2, if_pos k1, tm, if_pos t]) (fin (Or.inr (Or.inl ⟨m2, k1, t⟩)))
      · rw [no m0 (by omega)]
        exact Ev.step (f := fun _ => some false) (fun k => by simp only [spec_ValidInode.l0]; rw [if_neg (by omega), if_neg m0, if_neg m1, if_pos m2, if_pos k1, tm, if_neg t]) (Ev.now _)
    · rw [no m0 (by omega)]
      exact Ev.step (f := fun _ => some false) (fun k => by simp only [spec_ValidInode.l0]; rw [if_neg (by omega), if_neg m0, if_neg m1, if_pos m2, if_neg k1]) (Ev.now _)
  by_cases m3 : m = 3
  · by_cases s1 : s < 1
    · rw [no m0 (by omega)]
      exact Ev.step (f := fun _ => some false) (fun k => by simp only [spec_ValidInode.l0]; rw [if_neg (by omega), if_neg m0, if_neg m1, if_neg m2, if_pos m3, if_pos s1]) (Ev.now _)
    · by_cases s2 : s > 240
      · rw [no m0 (by omega)]
        exact Ev.step (f := fun _ => some false) (fun k => by simp only [spec_ValidInode.l0]; rw [if_neg (by omega), if_neg m0, if_neg m1, if_neg m2, if_pos m3, if_neg s1, if_pos s2]) (Ev.now _)
      · exact Ev.step (fun k => by simp only [spec_ValidInode.l0]; rw [if_neg (by omega), if_neg m0, if_neg m1, if_neg m2, if_pos m3, if_neg s1, if_neg s2]) (fin (Or.inr (Or.inr ⟨m3, by omega, by omega⟩)))
  · rw [no m0 (by omega)]
    exact Ev.step (f := fun _ => some false) (fun k => by simp only [spec_ValidInode.l0]; rw [if_neg (by omega), if_neg m0, if_neg m1, if_neg m2, if_neg m3]) (Ev.now _)
theorem impl_l0 (m k0 s : Int) (l : List Int) (d : Int) (hl : l.length = 8) (r : Bool) : ∀ a : Bool,
    ((∃ j, j < 8 ∧ ¬ cI m s l j) → Ev (fun k => impl_ValidInode.l0 k a l 8 0 m k0 s l d) false) ∧
    ((∀ j, j < 8 → cI m s l j) → (∀ b : Bool, (b = false ↔ (a = false ∧ ∀ j : Nat, j < 8 → rd l j = 0)) → Ev (fun k => impl_ValidInode.l0 k b l 8 8 m k0 s l d) r) → Ev (fun k => impl_ValidInode.l0 k a l 8 0 m k0 s l d) r) := by
  have key := down (P := fun i => ∀ a : Bool, ((∃ j, i ≤ j ∧ j < 8 ∧ ¬ cI m s l j) → Ev (fun k => impl_ValidInode.l0 k a l 8 (i : Int) m k0 s l d) false) ∧
    ((∀ j, i ≤ j → j < 8 → cI m s l j) → (∀ b : Bool, (b = false ↔ (a = false ∧ ∀ j : Nat, i ≤ j → j < 8 → rd l j = 0)) → Ev (fun k => impl_ValidInode.l0 k b l 8 8 m k0 s l d) r) → Ev (fun k => impl_ValidInode.l0 k a l 8 (i : Int) m k0 s l d) r)) 8 ?_ ?_
  · intro a
    refine ⟨fun ⟨j, h1, h2⟩ => (key a).1 ⟨j, by omega, h1, h2⟩, fun h1 h2 => (key a).2 (fun j _ h => h1 j h) (fun b hb => h2 b ?_)⟩
    rw [hb]
    exact ⟨fun ⟨x, y⟩ => ⟨x, fun j hj => y j (by omega) hj⟩, fun ⟨x, y⟩ => ⟨x, fun j _ hj => y j hj⟩⟩
  · intro a
    refine ⟨fun ⟨j, h1, h2, _⟩ => by omega, fun _ h => h a ?_⟩
    exact ⟨fun h => ⟨h, fun j h1 h2 => by omega⟩, fun h => h.1⟩
  · intro i hi ih a
    have hw : wrap64 ((i : Int) + 1) = ((i + 1 : Nat) : Int) := by rw [w64 (by omega) (by omega)]; rfl
    have hw2 : wrap64 ((i : Int) * 64) = (i : Int) * 64 := w64 (by omega) (by omega)
    let v := rd l (i : Int)
    have hv : rd l (i : Int) = v := rfl
    clear_value v
    by_cases c : cI m s l i
    · have st : ∀ q, Ev (fun k => impl_ValidInode.l0 k (a || v != 0) l 8 ((i + 1 : Nat) : Int) m k0 s l d) q → Ev (fun k => impl_ValidInode.l0 k a l 8 (i : Int) m k0 s l d) q := fun q h => by
        obtain ⟨g, c1, c2⟩ := c
        rw [hv] at g c1 c2
        have g' := g; unfold gb at g'
        refine Ev.step (f := fun k => impl_ValidInode.j2 k (a || v != 0) (i : Int) v l 8 (i : Int) m k0 s l d) (fun k => ?_) ?_
        · simp only [impl_ValidInode.l0]
          rw [if_pos (by omega), if_pos (by omega), if_pos (by omega), hv, impl_in_, Option.bind_some, if_pos (by simp; omega)]
          cases a with
          | true => rw [if_pos rfl, Bool.true_or]
          | false => rw [if_neg (by decide), Bool.false_or]
        · refine Ev.step (f := fun k => impl_ValidInode.j3 k (a || v != 0) (i : Int) v l 8 (i : Int) false m k0 s l d) (fun k => ?_) ?_
          · simp only [impl_ValidInode.j2]
            by_cases e : m = 0
            · rw [if_pos e]
            · rw [if_neg e, hw2]
              by_cases e2 : (i : Int) * 64 ≥ s
              · rw [if_pos e2, show (v != 0) = false by simpa using c1 e e2]
              · rw [if_neg e2]
          · refine Ev.step (fun k => ?_) h
            simp only [impl_ValidInode.j3]
            rw [if_neg (by decide), hw2, hw]
            by_cases e : m = 2
            · rw [if_pos e]
              by_cases e2 : (i : Int) * 64 < s
              · rw [if_pos e2, if_neg (c2 (Or.inl e) e2)]
              · rw [if_neg e2]
            · rw [if_neg e]
              by_cases e' : m = 3
              · rw [if_pos e']
                by_cases e2 : (i : Int) * 64 < s
                · rw [if_pos e2, if_neg (c2 (Or.inr e') e2)]
                · rw [if_neg e2]
              · rw [if_neg e']
      obtain ⟨h1, h2⟩ := ih (a || v != 0)
      refine ⟨fun ⟨j, x, y, h⟩ => st _ (h1 ⟨j, ?_, y, h⟩), fun h h' => st _ (h2 (fun j x y => h j (by omega) y) (fun b hb => h' b ?_))⟩
      · rcases Nat.eq_or_lt_of_le x with rfl | x
        · exact absurd c h
        · exact x
      · rw [hb]
        constructor
        · rintro ⟨x, y⟩
          have x' : a = false ∧ v = 0 := by simpa using x
          refine ⟨x'.1, fun j h1 h2 => ?_⟩
          rcases Nat.eq_or_lt_of_le h1 with rfl | h1
          · rw [hv]; exact x'.2
          · exact y j h1 h2
        · rintro ⟨x, y⟩
          have := y i (Nat.le_refl _) hi
          rw [hv] at this
          exact ⟨by simp [x, this], fun j h1 h2 => y j (by omega) h2⟩
    · refine ⟨fun _ => ?_, fun h => absurd (h i (Nat.le_refl _) hi) c⟩
      unfold cI at c
      rw [hv] at c
      by_cases g : gb v
      · have g' := g; unfold gb at g'
        refine Ev.step (f := fun k => impl_ValidInode.j2 k (a || v != 0) (i : Int) v l 8 (i : Int) m k0 s l d) (fun k => ?_) ?_
        · simp only [impl_ValidInode.l0]
          rw [if_pos (by omega), if_pos (by omega), if_pos (by omega), hv, impl_in_, Option.bind_some, if_pos (by simp; omega)]
          cases a with
          | true => rw [if_pos rfl, Bool.true_or]
          | false => rw [if_neg (by decide), Bool.false_or]
        · by_cases p : m ≠ 0 ∧ (i : Int) * 64 ≥ s ∧ v ≠ 0
          · refine Ev.step (f := fun k => impl_ValidInode.j3 k (a || v != 0) (i : Int) v l 8 (i : Int) true m k0 s l d) (fun k => ?_) ?_
            · simp only [impl_ValidInode.j2]
              rw [if_neg p.1, hw2, if_pos p.2.1, show (v != 0) = true by simpa using p.2.2]
            · exact Ev.step (f := fun _ => some false) (fun k => by simp only [impl_ValidInode.j3]; rw [if_pos trivial]) (Ev.now _)
          · have c1 : m ≠ 0 → (i : Int) * 64 ≥ s → v = 0 := fun h1 h2 => by
              by_cases h : v = 0
              · exact h
              · exact absurd ⟨h1, h2, h⟩ p
            have hm : (m = 2 ∨ m = 3) ∧ (i : Int) * 64 < s ∧ v = 0 := by
              by_cases h : (m = 2 ∨ m = 3) ∧ (i : Int) * 64 < s ∧ v = 0
              · exact h
              · exact absurd ⟨g, c1, fun h1 h2 h3 => h ⟨h1, h2, h3⟩⟩ c
            refine Ev.step (f := fun k => impl_ValidInode.j3 k (a || v != 0) (i : Int) v l 8 (i : Int) false m k0 s l d) (fun k => ?_) ?_
            · simp only [impl_ValidInode.j2]
              rw [if_neg (by omega), hw2, if_neg (by omega)]
            · refine Ev.step (f := fun _ => some false) (fun k => ?_) (Ev.now _)
              simp only [impl_ValidInode.j3]
              rw [if_neg (by decide), hw2]
              rcases hm with ⟨e | e, e2, e3⟩
              · rw [if_pos e, if_pos e2, if_pos e3]
              · rw [if_neg (by omega), if_pos e, if_pos e2, if_pos e3]
      · refine Ev.step (f := fun _ => some false) (fun k => ?_) (Ev.now _)
        simp only [impl_ValidInode.l0]
        rw [if_pos (by omega), if_pos (by omega), if_pos (by omega), hv, impl_in_, Option.bind_some, if_neg (by unfold gb at g; simp; omega)]
theorem impl_ev (m k0 s : Int) (l : List Int) (d : Int) : Ev (fun k => impl_ValidInode.f k m k0 s l d) (val m k0 s l d) := by
  have vt : fullI m k0 s l d → val m k0 s l d = true := fun h => val_t ((full_iff m k0 s l d).2 h)
  have vf : ¬ fullI m k0 s l d → val m k0 s l d = false := fun h => val_f (fun h2 => h ((full_iff m k0 s l d).1 h2))
  have jt : Ev (fun k => impl_ValidInode.j0 k true m k0 s l d) false := Ev.step (f := fun _ => some false) (fun k => by simp only [impl_ValidInode.j0]; rw [if_pos trivial]) (Ev.now _)
  by_cases hl : (l.length : Int) = 8
  rotate_left
  · rw [vf (fun h => hl (by have := h.1; omega))]
    exact Ev.congr (fun k => by unfold impl_ValidInode.f; rw [if_neg hl]) jt
  by_cases gd : gb d
  rotate_left
  · rw [vf (fun h => gd h.2.1)]
    exact Ev.congr (fun k => by unfold impl_ValidInode.f; rw [if_pos hl, impl_in_, Option.bind_some, decide_eq_false (by unfold gb at gd; omega)]; rfl) jt
  have gd' := gd; unfold gb at gd'
  refine Ev.congr (fun k => by unfold impl_ValidInode.f; rw [if_pos hl, impl_in_, Option.bind_some, decide_eq_true (by omega)]) ?_
  refine Ev.step (f := fun k => impl_ValidInode.l0 k (d != 0) l 8 0 m k0 s l d) (fun k => by simp only [impl_ValidInode.j0]; rw [if_neg (by decide), hl]) ?_
  have L := impl_l0 m k0 s l d (by omega) (val m k0 s l d) (d != 0)
  by_cases hc : ∀ j, j < 8 → cI m s l j
  rotate_left
  · have v0 := vf (fun h => hc h.2.2.1)
    rw [v0]
    refine L.1 ?_
    by_cases h : ∃ j, j < 8 ∧ ¬ cI m s l j
    · exact h
    · exact absurd (fun j hj => by
        by_cases g : cI m s l j
        · exact g
        · exact absurd ⟨j, hj, g⟩ h) hc
  refine L.2 hc (fun b hb => ?_)
  have base : l.length = 8 ∧ gb d ∧ (∀ j, j < 8 → cI m s l j) := ⟨by omega, gd, hc⟩
  have no : ¬ (m = 0) → ¬ (m = 1 ∨ (m = 2 ∧ k0 = 1 ∧ s % 16 = 0) ∨ (m = 3 ∧ 1 ≤ s ∧ s ≤ 240)) → val m k0 s l d = false := fun n0 n1 => vf (fun h => by
    rcases h.2.2.2 with ⟨a, _⟩ | ⟨b, _⟩
    · exact n0 a
    · exact n1 b)
  have fin : ∀ (hm : m = 1 ∨ (m = 2 ∧ k0 = 1 ∧ s % 16 = 0) ∨ (m = 3 ∧ 1 ≤ s ∧ s ≤ 240)) (x6 : Int), x6 = (if m = 1 then 0 else 1) → Ev (fun k => impl_ValidInode.j4 k x6 m k0 s l d) (val m k0 s l d) := fun hm x6 hx => by
    have n0 : ¬ m = 0 := by omega
    by_cases a1 : x6 ≤ k0 ∧ k0 ≤ 8
    rotate_left
    · rw [vf (fun h => by
        rcases h.2.2.2 with ⟨a, _⟩ | ⟨_, b, c, _⟩
        · exact n0 a
        · exact a1 (by rw [hx]; exact ⟨b, c⟩))]
      exact Ev.step (f := fun _ => some false) (fun k => by simp only [impl_ValidInode.j4]; rw [impl_in_, Option.bind_some, if_neg (by simpa using a1)]) (Ev.now _)
    by_cases a2 : 0 ≤ s ∧ s ≤ 2560
    rotate_left
    · rw [vf (fun h => by
        rcases h.2.2.2 with ⟨a, _⟩ | ⟨_, _, _, b, c, _⟩
        · exact n0 a
        · exact a2 ⟨b, c⟩)]
      exact Ev.step (f := fun _ => some false) (fun k => by simp only [impl_ValidInode.j4]; rw [impl_in_, Option.bind_some, if_pos (by simpa using a1), impl_in_, Option.bind_some, if_neg (by simpa using a2)]) (Ev.now _)
    have st : ∀ q, (if s ≤ 512 then (if d = 0 then (if m = 1 then some true else some true) else some false) else (if m = 1 then some true else some (d != 0))) = some q → Ev (fun k => impl_ValidInode.j4 k x6 m k0 s l d) q := fun q h =>
      Ev.step (f := fun _ => some q) (fun k => by simp only [impl_ValidInode.j4]; rw [impl_in_, Option.bind_some, if_pos (by simpa using a1), impl_in_, Option.bind_some, if_pos (by simpa using a2)]; exact h) (Ev.now _)
    refine st _ ?_
    by_cases a3 : s ≤ 512
    · rw [if_pos a3]
      by_cases a4 : d = 0
      · rw [if_pos a4, vt ⟨base.1, gd, hc, Or.inr ⟨hm, by rw [← hx]; exact a1.1, a1.2, a2.1, a2.2, fun _ => a4, fun h => by omega⟩⟩]
        split <;> rfl
      · rw [if_neg a4, vf (fun h => by
          rcases h.2.2.2 with ⟨a, _⟩ | ⟨_, _, _, _, _, b, _⟩
          · exact n0 a
          · exact a4 (b a3))]
    · rw [if_neg a3]
      by_cases a5 : m = 1
      · rw [if_pos a5, vt ⟨base.1, gd, hc, Or.inr ⟨hm, by rw [← hx]; exact a1.1, a1.2, a2.1, a2.2, fun h => absurd h a3, fun _ h => absurd a5 h⟩⟩]
      · rw [if_neg a5]
        by_cases a4 : d = 0
        · rw [vf (fun h => by
            rcases h.2.2.2 with ⟨a, _⟩ | ⟨_, _, _, _, _, _, b⟩
            · exact n0 a
            · exact b (by omega) a5 a4), show (d != 0) = false by simpa using a4]
        · rw [vt ⟨base.1, gd, hc, Or.inr ⟨hm, by rw [← hx]; exact a1.1, a1.2, a2.1, a2.2, fun h => absurd h a3, fun _ _ => a4⟩⟩, show (d != 0) = true by simpa using a4]
  have tm : (Int.tmod s 16 = 0) ↔ s % 16 = 0 := by
    rw [Int.tmod_eq_emod]
    split <;> omega
  by_cases m0 : m = 0
  · by_cases k1 : k0 = 0
    · by_cases s1 : s = 0
      · refine Ev.step (f := fun _ => some (!b)) (fun k => by simp only [impl_ValidInode.l0]; rw [if_neg (by omega), if_pos m0, if_pos k1, if_pos s1]) ?_
        cases b with
        | false =>
          obtain ⟨h1, h2⟩ := hb.1 rfl
          rw [vt ⟨base.1, gd, hc, Or.inl ⟨m0, k1, s1, by simpa using h1, h2⟩⟩]
          exact Ev.now true
        | true =>
          rw [vf (fun h => by
            rcases h.2.2.2 with ⟨_, _, _, a, c⟩ | ⟨b, _⟩
            · have := hb.2 ⟨by simpa using a, c⟩
              cases this
            · omega)]
          exact Ev.now false
      · rw [vf (fun h => by
          rcases h.2.2.2 with ⟨_, _, a, _⟩ | ⟨b, _⟩
          · exact s1 a
          · omega)]
        exact Ev.step (f := fun _ => some false) (fun k => by simp only [impl_ValidInode.l0]; rw [if_neg (by omega), if_pos m0, if_pos k1, if_neg s1]) (Ev.now _)
    · rw [vf (fun h => by
        rcases h.2.2.2 with ⟨_, a, _⟩ | ⟨b, _⟩
        · exact k1 a
        · omega)]
      exact Ev.step (f := fun _ => some false) (fun k => by simp only [impl_ValidInode.l0]; rw [if_neg (by omega), if_pos m0, if_neg k1]) (Ev.now _)
  by_cases m1 : m = 1
  · exact Ev.step (fun k => by simp only [impl_ValidInode.l0]; rw [if_neg (by omega), if_neg m0, if_pos m1]) (fin (Or.inl m1) 0 (by rw [if_pos m1]))
  by_cases m2 : m = 2
  · by_cases k1 : k0 = 1
    · by_cases t : s % 16 = 0
      · exact Ev.step (fun k => by simp only [impl_ValidInode.l0]; rw [if_neg (by omega), if_neg m0, if_neg m1, if_pos m2, if_pos k1, if_pos (tm.2 t)]) (fin (Or.inr (Or.inl ⟨m2, k1, t⟩)) 1 (by rw [if_neg m1]))
      · rw [no m0 (by omega)]
        exact Ev.step (f := fun _ => some false) (fun k => by simp only [impl_ValidInode.l0]; rw [if_neg (by omega), if_neg m0, if_neg m1, if_pos m2, if_pos k1, if_neg (fun h => t (tm.1 h))]) (Ev.now _)
    · rw [no m0 (by omega)]
      exact Ev.step (f := fun _ => some false) (fun k => by simp only [impl_ValidInode.l0]; rw [if_neg (by omega), if_neg m0, if_neg m1, if_pos m2, if_neg k1]) (Ev.now _)
  by_cases m3 : m = 3
  · by_cases s1 : 1 ≤ s ∧ s ≤ 240
    · exact Ev.step (fun k => by simp only [impl_ValidInode.l0]; rw [if_neg (by omega), if_neg m0, if_neg m1, if_neg m2, if_pos m3, impl_in_, Option.bind_some, if_pos (by simpa using s1)]) (fin (Or.inr (Or.inr ⟨m3, s1⟩)) 1 (by rw [if_neg m1]))
    · rw [no m0 (by omega)]
      exact Ev.step (f := fun _ => some false) (fun k => by simp only [impl_ValidInode.l0]; rw [if_neg (by omega), if_neg m0, if_neg m1, if_neg m2, if_pos m3, impl_in_, Option.bind_some, if_neg (by simpa using s1)]) (Ev.now _)
  · rw [no m0 (by omega)]
    exact Ev.step (f := fun _ => some false) (fun k => by simp only [impl_ValidInode.l0]; rw [if_neg (by omega), if_neg m0, if_neg m1, if_neg m2, if_neg m3]) (Ev.now _)
end VI
namespace GN
/-- The number that the bytes say, the first the greatest. -/
def val (l : List Int) : Int := l.foldl (fun v c => v * 256 + c) 0
theorem val_nil : val [] = 0 := rfl
theorem val_snoc (l : List Int) (c : Int) : val (l ++ [c]) = val l * 256 + c := by unfold val; rw [List.foldl_append]; rfl
theorem val_bd (l : List Int) (hb : ∀ x ∈ l, 0 ≤ x ∧ x ≤ 255) (n : Nat) : n ≤ l.length → 0 ≤ val (l.take n) ∧ val (l.take n) < 256 ^ n := by
  induction n with
  | zero => intro _; simp [val]
  | succ n ih =>
    intro h
    have := ih (by omega)
    rw [List.take_succ_eq_append_getElem (by omega), val_snoc, Int.pow_succ]
    have := hb l[n] (List.getElem_mem _)
    omega
theorem val_take_lt (l : List Int) (hb : ∀ x ∈ l, 0 ≤ x ∧ x ≤ 255) (h8 : l.length ≤ 8) (ht : l.length = 8 → rd l 0 ≤ 127) (n : Nat) (hn : n < l.length) : 0 ≤ val (l.take n) ∧ val (l.take n) < 2 ^ 55 ∧ 0 ≤ l[n] ∧ l[n] ≤ 255 := by
  have h := val_bd l hb n (by omega)
  have hc := hb l[n] (List.getElem_mem _)
  refine ⟨h.1, ?_, hc.1, hc.2⟩
  by_cases h7 : n = 7
  · subst h7
    have h1 := ht (by omega)
    match l, hn with
    | a :: b :: c :: d :: e :: f :: g :: r, _ =>
      have ha := hb a (by simp); have hb1 := hb b (by simp); have hc1 := hb c (by simp); have hd1 := hb d (by simp); have he := hb e (by simp); have hf := hb f (by simp); have hg := hb g (by simp)
      have h1' : a ≤ 127 := h1
      show val [a, b, c, d, e, f, g] < 2 ^ 55
      simp only [val, List.foldl]; omega
  · have h6 : n = 0 ∨ n = 1 ∨ n = 2 ∨ n = 3 ∨ n = 4 ∨ n = 5 ∨ n = 6 := by omega
    have h2 := h.2
    rcases h6 with e | e | e | e | e | e | e <;> rw [e] at h2 ⊢ <;> omega
theorem spec_loop (l : List Int) (hb : ∀ x ∈ l, 0 ≤ x ∧ x ≤ 255) (h8 : l.length ≤ 8) (ht : l.length = 8 → rd l 0 ≤ 127) (d : Nat) : ∀ n : Nat, n + d = l.length → Ev (fun k => spec_GetNumber.l0 k l (val (l.take n)) (n : Int)) (val l) := by
  induction d with
  | zero =>
    intro n hn
    have : l.take n = l := List.take_of_length_le (by omega)
    rw [this]
    exact Ev.step (f := fun _ => some (val l)) (fun k => by simp only [spec_GetNumber.l0]; rw [if_neg (by omega)]) (Ev.now _)
  | succ d ih =>
    intro n hn
    have hv := val_take_lt l hb h8 ht n (by omega)
    refine Ev.step (f := fun k => spec_GetNumber.l0 k l (val (l.take (n + 1))) ((n + 1 : Nat) : Int)) (fun k => ?_) (ih (n + 1) (by omega))
    simp only [spec_GetNumber.l0]
    rw [if_pos (by omega), if_pos (by omega), rd_nat l n (by omega), List.take_succ_eq_append_getElem (by omega), val_snoc]
    rw [w64 (x := val (l.take n) * 256) (by omega) (by omega), w64 (x := l[n]) (by omega) (by omega), w64 (by omega) (by omega), w64 (by omega) (by omega)]
    rfl
theorem impl_loop (l : List Int) (hb : ∀ x ∈ l, 0 ≤ x ∧ x ≤ 255) (h8 : l.length ≤ 8) (ht : l.length = 8 → rd l 0 ≤ 127) (d : Nat) : ∀ n : Nat, n + d = l.length → Ev (fun k => impl_GetNumber.l0 k (val (l.take n)) l (l.length : Int) (n : Int)) (val l) := by
  induction d with
  | zero =>
    intro n hn
    have : l.take n = l := List.take_of_length_le (by omega)
    rw [this]
    exact Ev.step (f := fun _ => some (val l)) (fun k => by simp only [impl_GetNumber.l0]; rw [if_neg (by omega)]) (Ev.now _)
  | succ d ih =>
    intro n hn
    have hv := val_take_lt l hb h8 ht n (by omega)
    refine Ev.step (f := fun k => impl_GetNumber.l0 k (val (l.take (n + 1))) l (l.length : Int) ((n + 1 : Nat) : Int)) (fun k => ?_) (ih (n + 1) (by omega))
    simp only [impl_GetNumber.l0]
    rw [if_pos (by omega), if_pos (by omega), if_pos (by omega), rd_nat l n (by omega), List.take_succ_eq_append_getElem (by omega), val_snoc]
    rw [w64 (x := val (l.take n) * 256) (by omega) (by omega), w64 (x := l[n]) (by omega) (by omega), i64_orb _ _ hv.1 hv.2.1 hv.2.2.1 (by omega), w64 (by omega) (by omega)]
    rfl
/-- What both say. -/
def numOf (l : List Int) : Int := if l.length = 0 ∨ l.length > 8 ∨ (l.length = 8 ∧ rd l 0 > 127) then -1 else val l
theorem spec_ev (l : List Int) (hb : ∀ x ∈ l, 0 ≤ x ∧ x ≤ 255) : Ev (fun k => spec_GetNumber.f k l) (numOf l) := by
  have hj : ∀ k b, spec_GetNumber.j0 (k + 1) l b = if b = true then (some (-1)) else (spec_GetNumber.l0 k l 0 0) := fun _ _ => rfl
  by_cases h : l.length = 0 ∨ l.length > 8 ∨ (l.length = 8 ∧ rd l 0 > 127)
  · have : numOf l = -1 := by unfold numOf; rw [if_pos h]
    rw [this]
    refine Ev.step (f := fun _ => some (-1)) (fun k => ?_) (Ev.now _)
    unfold spec_GetNumber.f
    rcases h with h | h | ⟨h, h2⟩
    · rw [if_pos (by omega), hj, if_pos rfl]
    · rw [if_neg (by omega), if_pos (by omega), hj, if_pos rfl]
    · rw [if_neg (by omega), if_neg (by omega), if_pos (by omega), if_pos (by omega), hj, if_pos (decide_eq_true h2)]
  · have : numOf l = val l := by unfold numOf; rw [if_neg h]
    rw [this]
    refine Ev.step (f := fun k => spec_GetNumber.l0 k l (val (l.take 0)) ((0 : Nat) : Int)) (fun k => ?_) (spec_loop l hb (by omega) (by omega) l.length 0 (by omega))
    unfold spec_GetNumber.f
    rw [if_neg (by omega), if_neg (by omega)]
    by_cases h8 : l.length = 8
    · rw [if_pos (by omega), if_pos (by omega), hj, if_neg (by simp; omega)]; rfl
    · rw [if_neg (by omega), hj, if_neg (by simp)]; rfl
theorem impl_ev (l : List Int) (hb : ∀ x ∈ l, 0 ≤ x ∧ x ≤ 255) : Ev (fun k => impl_GetNumber.f k l) (numOf l) := by
  have hj : ∀ k b, impl_GetNumber.j0 (k + 1) l b = if b = true then (some (-1)) else (impl_GetNumber.l0 k 0 l (l.length : Int) 0) := fun _ _ => rfl
  by_cases h : l.length = 0 ∨ l.length > 8 ∨ (l.length = 8 ∧ rd l 0 > 127)
  · have : numOf l = -1 := by unfold numOf; rw [if_pos h]
    rw [this]
    refine Ev.step (f := fun _ => some (-1)) (fun k => ?_) (Ev.now _)
    unfold impl_GetNumber.f
    rcases h with h | h | ⟨h, h2⟩
    · rw [if_pos (by omega), hj, if_pos rfl]
    · rw [if_neg (by omega), if_pos (by omega), hj, if_pos rfl]
    · rw [if_neg (by omega), if_neg (by omega), if_pos (by omega), if_pos (by omega), hj, if_pos (decide_eq_true (by omega))]
  · have : numOf l = val l := by unfold numOf; rw [if_neg h]
    rw [this]
    refine Ev.step (f := fun k => impl_GetNumber.l0 k (val (l.take 0)) l (l.length : Int) ((0 : Nat) : Int)) (fun k => ?_) (impl_loop l hb (by omega) (by omega) l.length 0 (by omega))
    unfold impl_GetNumber.f
    rw [if_neg (by omega), if_neg (by omega)]
    by_cases h8 : l.length = 8
    · rw [if_pos (by omega), if_pos (by omega), hj, if_neg (by simp; omega)]; rfl
    · rw [if_neg (by omega), hj, if_neg (by simp)]; rfl
end GN
namespace EP
/-- n bytes of v, the greatest first. -/
def be : Nat → Int → List Int
  | 0, _ => []
  | n + 1, v => be n (v / 256) ++ [v % 256]
theorem be_len : ∀ (n : Nat) (v : Int), (be n v).length = n
  | 0, _ => rfl
  | n + 1, v => by simp [be, be_len n]
/-- What both say. -/
def putOf (v n : Int) : List Int := if n < 1 ∨ n > 8 ∨ v < 0 ∨ v / 256 ^ n.toNat > 0 then [] else be n.toNat v
theorem putOf_len (v n : Int) : (putOf v n).length ≤ 8 := by
  unfold putOf; split
  · simp
  · rw [be_len]; omega
theorem div_pow (v : Int) (d : Nat) : v / 256 / 256 ^ d = v / 256 ^ (d + 1) := by
  rw [Int.ediv_ediv_of_nonneg (by omega), Int.pow_succ, Int.mul_comm]
theorem putSpec_loop (n : Int) (hn : n ≤ 8) (d : Nat) : ∀ (v : Int) (i : Nat) (out : List Int), 0 ≤ v → v ≤ 9223372036854775807 → (i : Int) + d = n → out.length = i →
    Ev (fun k => spec_PutNumber.l0 k v n out (i : Int)) (if v / 256 ^ d > 0 then [] else be d v ++ out) := by
  induction d with
  | zero =>
    intro v i out h0 h1 hi hl
    refine Ev.step (f := fun _ => some (if v / 256 ^ 0 > 0 then [] else be 0 v ++ out)) (fun k => ?_) (Ev.now _)
    simp only [spec_PutNumber.l0]
    rw [if_neg (by omega), show v / 256 ^ 0 = v by simp]
    by_cases h : v > 0
    · rw [if_pos h, if_pos h]
    · rw [if_neg h, if_neg h]; rfl
  | succ d ih =>
    intro v i out h0 h1 hi hl
    have h := ih (v / 256) (i + 1) ([v % 256] ++ out) (by omega) (by omega) (by omega) (by simp only [List.length_append, List.length_cons, List.length_nil]; omega)
    rw [div_pow] at h
    refine Ev.step (f := fun k => spec_PutNumber.l0 k (v / 256) n ([v % 256] ++ out) ((i + 1 : Nat) : Int)) (fun k => ?_) ?_
    · simp only [spec_PutNumber.l0, Option.bind_some]
      rw [if_pos (by omega), if_pos (by simp [hl]; omega), Int.tmod_eq_emod_of_nonneg h0, Int.tdiv_eq_ediv_of_nonneg h0, w64 (by omega) (by omega), w64 (by omega) (by omega), show v % 256 % 256 = v % 256 by omega]; rfl
    · rwa [show be (d + 1) v ++ out = be d (v / 256) ++ ([v % 256] ++ out) by simp [be]]
theorem putSpec_ev (v n : Int) (hv : v ≤ 9223372036854775807) : Ev (fun k => spec_PutNumber.f k v n) (putOf v n) := by
  have hj : ∀ k b, spec_PutNumber.j0 (k + 1) v n b = if b = true then (some (([] : List Int))) else (spec_PutNumber.l0 k v n (([] : List Int)) 0) := fun _ _ => rfl
  by_cases c1 : n < 1
  · have : putOf v n = [] := by unfold putOf; rw [if_pos (.inl c1)]
    rw [this]
    exact Ev.step (f := fun _ => some []) (fun k => by unfold spec_PutNumber.f; rw [if_pos c1, hj, if_pos rfl]) (Ev.now _)
  by_cases c2 : n > 8
  · have : putOf v n = [] := by unfold putOf; rw [if_pos (.inr (.inl c2))]
    rw [this]
    exact Ev.step (f := fun _ => some []) (fun k => by unfold spec_PutNumber.f; rw [if_neg c1, if_pos c2, hj, if_pos rfl]) (Ev.now _)
  by_cases c3 : v < 0
  · have : putOf v n = [] := by unfold putOf; rw [if_pos (.inr (.inr (.inl c3)))]
    rw [this]
    exact Ev.step (f := fun _ => some []) (fun k => by unfold spec_PutNumber.f; rw [if_neg c1, if_neg c2, hj, if_pos (decide_eq_true c3)]) (Ev.now _)
  have h := putSpec_loop n (by omega) n.toNat v 0 [] (by omega) hv (by omega) rfl
  have e : putOf v n = if v / 256 ^ n.toNat > 0 then [] else be n.toNat v ++ [] := by
    unfold putOf
    by_cases c : v / 256 ^ n.toNat > 0
    · rw [if_pos (.inr (.inr (.inr c))), if_pos c]
    · rw [if_neg (by omega), if_neg c]; simp
  rw [e]
  exact Ev.step (fun k => by unfold spec_PutNumber.f; rw [if_neg c1, if_neg c2, hj, if_neg (by simpa using c3)]) (show Ev (fun k => spec_PutNumber.l0 k v n [] 0) _ from h)
theorem be_get : ∀ (n : Nat) (v : Int) (i : Nat) (h : i < (be n v).length), (be n v)[i] = v / 256 ^ (n - 1 - i) % 256
  | 0, _, i, h => by simp [be] at h
  | n + 1, v, i, h => by
    have hl := be_len n (v / 256)
    by_cases hi : i < n
    · simp only [be]
      rw [List.getElem_append_left (by omega), be_get n (v / 256) i (by omega), div_pow, show n - 1 - i + 1 = n + 1 - 1 - i by omega]
    · have hi' : i = n := by simp [be, hl] at h; omega
      subst hi'
      simp only [be]
      rw [List.getElem_append_right (by omega)]
      simp [hl]
theorem pow8 (m : Nat) : (2 : Int) ^ (8 * m) = 256 ^ m := by rw [Int.pow_mul]; rfl
theorem shr8 (v : Int) (m : Nat) (hm : m ≤ 8) : shr .i64 v ((8 * m : Nat) : Int) = v / 256 ^ m := by
  unfold shr; rw [Int.toNat_natCast, Nat.min_eq_left (by simp only [IntKind.bits]; omega), pow8]
theorem putImpl_loop (v : Int) (n : Nat) (hn : n ≤ 8) : Ev (fun k => impl_PutNumber.l0 k v (n : Int) (List.replicate n 0) (n : Int) 0) (be n v) := by
  have h := fill_ev (L := fun k x i => impl_PutNumber.l0 k v (n : Int) x (n : Int) i) (List.range n) (fun i => v / 256 ^ (n - 1 - i) % 256)
    (fun i x h hx r hr => by
      simp only [List.length_range] at h hx
      refine Ev.step (fun k => ?_) hr
      simp only [impl_PutNumber.l0]
      have e : wrap64 (8 * (wrap64 ((wrap64 ((n : Int) - 1)) - i))) = ((8 * (n - 1 - i) : Nat) : Int) := by
        rw [w64 (x := (n : Int) - 1) (by omega) (by omega), w64 (x := (n : Int) - 1 - i) (by omega) (by omega), w64 (by omega) (by omega)]; omega
      rw [if_pos (by omega), e, if_pos (by omega), if_pos (by omega), if_pos (by omega), shr8 _ _ (by omega), w64 (by omega) (by omega)]
      simp)
    (fun x hx => by
      simp only [List.length_range] at hx ⊢
      exact Ev.step (f := fun _ => some x) (fun k => by simp only [impl_PutNumber.l0]; rw [if_neg (by omega)]) (Ev.now _))
    (List.replicate n 0) (by simp)
  have e : (List.range n).map (fun i => v / 256 ^ (n - 1 - i) % 256) = be n v := by
    apply List.ext_getElem
    · simp [be_len]
    · intro i h1 h2
      rw [be_get]; simp
  rwa [e] at h
theorem lt256 (v : Int) (h0 : 0 ≤ v) (h1 : v ≤ 9223372036854775807) : v / 256 ^ 8 = 0 := by
  have : (256 : Int) ^ 8 = 18446744073709551616 := by decide
  rw [this]; omega
theorem putImpl_ev (v n : Int) (hv : v ≤ 9223372036854775807) : Ev (fun k => impl_PutNumber.f k v n) (putOf v n) := by
  have hj : ∀ k b, impl_PutNumber.j0 (k + 1) v n b = if b = true then (some ([] : List Int)) else (if 0 ≤ n then (if (n : Int).toNat ≤ 281474976710656 then ((some (List.replicate (n : Int).toNat 0 : List Int)).bind fun y116 => (impl_PutNumber.l0 k v n y116 (y116.length : Int) 0)) else (none)) else (none)) := fun _ _ => rfl
  by_cases c1 : n < 1
  · have : putOf v n = [] := by unfold putOf; rw [if_pos (.inl c1)]
    rw [this]
    exact Ev.step (f := fun _ => some []) (fun k => by unfold impl_PutNumber.f; rw [if_pos c1, hj, if_pos rfl]) (Ev.now _)
  by_cases c2 : n > 8
  · have : putOf v n = [] := by unfold putOf; rw [if_pos (.inr (.inl c2))]
    rw [this]
    exact Ev.step (f := fun _ => some []) (fun k => by unfold impl_PutNumber.f; rw [if_neg c1, if_pos c2, hj, if_pos rfl]) (Ev.now _)
  by_cases c3 : v < 0
  · have : putOf v n = [] := by unfold putOf; rw [if_pos (.inr (.inr (.inl c3)))]
    rw [this]
    exact Ev.step (f := fun _ => some []) (fun k => by unfold impl_PutNumber.f; rw [if_neg c1, if_neg c2, if_pos c3, hj, if_pos rfl]) (Ev.now _)
  obtain ⟨m, rfl⟩ := Int.eq_ofNat_of_zero_le (show 0 ≤ n by omega)
  have hloop : ∀ b, b = false → Ev (fun k => impl_PutNumber.j0 k v (m : Int) b) (be m v) := fun b hb => by
    refine Ev.step (f := fun k => impl_PutNumber.l0 k v (m : Int) (List.replicate m 0) (m : Int) 0) (fun k => ?_) (putImpl_loop v m (by omega))
    rw [hj, if_neg (by simp [hb]), if_pos (by omega), if_pos (by simp; omega)]; simp
  by_cases c4 : (m : Int) < 8
  · have e8 : wrap64 (8 * (m : Int)) = ((8 * m : Nat) : Int) := by rw [w64 (by omega) (by omega)]; omega
    have hd : 0 ≤ v / 256 ^ m := Int.ediv_nonneg (by omega) (Int.le_of_lt (Int.pow_pos (by decide)))
    by_cases c5 : v / 256 ^ m > 0
    · have : putOf v m = [] := by unfold putOf; rw [if_pos (.inr (.inr (.inr (by simpa using c5))))]
      rw [this]
      exact Ev.step (f := fun _ => some []) (fun k => by unfold impl_PutNumber.f; rw [if_neg c1, if_neg c2, if_neg c3, if_pos c4, e8, if_pos (by omega), shr8 _ _ (by omega), hj, if_pos (by simp; omega)]) (Ev.now _)
    · have : putOf v m = be m v := by unfold putOf; rw [if_neg (by simp; omega)]; simp
      rw [this]
      exact Ev.congr (fun k => by unfold impl_PutNumber.f; rw [if_neg c1, if_neg c2, if_neg c3, if_pos c4, e8, if_pos (by omega), shr8 _ _ (by omega)]) (hloop _ (by simp; omega))
  · have hm8 : m = 8 := by omega
    have : putOf v m = be m v := by
      unfold putOf; rw [if_neg (by subst hm8; have := lt256 v (by omega) hv; simp only [Int.toNat_natCast]; omega)]; simp
    rw [this]
    exact Ev.congr (fun k => by unfold impl_PutNumber.f; rw [if_neg c1, if_neg c2, if_neg c3, if_neg c4]) (hloop _ rfl)
theorem put_ev (b : List Int) (p : Nat) (v n : Int) (hv : v ≤ 9223372036854775807) (hp : p ≤ b.length) : Ev (fun k => impl_put.f k b (p : Int) v n) (splice b p ((putOf v n).take (b.length - p))) := by
  unfold impl_put.f
  refine (putImpl_ev v n hv).bind ?_
  exact Ev.congr (fun k => by rw [if_pos (by omega), if_pos (by omega), Int.toNat_natCast]) (Ev.now _)
theorem put_two (v : Int) (h0 : 0 ≤ v) (h1 : v < 65536) : putOf v 2 = be 2 v := by
  unfold putOf; rw [if_neg (by simp; omega)]; rfl
theorem splice_at (a z x : List Int) (h : x.length ≤ z.length) : splice (a ++ z) a.length (x.take ((a ++ z).length - a.length)) = (a ++ x) ++ z.drop x.length := by
  have e : x.take ((a ++ z).length - a.length) = x := List.take_of_length_le (by rw [List.length_append]; omega)
  rw [e]; unfold splice
  rw [List.take_left, List.drop_append]
  simp
/-- A number of two bytes, put behind what stands, ahead of zeros. -/
theorem put2_ev (a : List Int) (m : Nat) (p : Int) (v : Int) (h0 : 0 ≤ v) (h1 : v < 65536) (hp : p = (a.length : Int)) : Ev (fun k => impl_put.f k (a ++ List.replicate (m + 2) 0) p v 2) ((a ++ be 2 v) ++ List.replicate m 0) := by
  have h := put_ev (a ++ List.replicate (m + 2) 0) a.length v 2 (by omega) (by simp)
  rw [put_two v h0 h1, splice_at a _ _ (by rw [be_len]; simp), be_len] at h
  have e : (List.replicate (m + 2) (0 : Int)).drop 2 = List.replicate m 0 := by simp
  rw [e] at h
  rw [hp]; exact h
theorem ijoin_some (a b : List Int) (h : a.length + b.length < 140737488355328) : spec_l2Join.f a b = some (a ++ b) := by
  unfold spec_l2Join.f spec_l1Copy.f
  rw [Option.bind_some, if_pos (by simp; omega), Option.bind_some, if_pos (by simpa using h)]; rfl
theorem iput2 (v : Int) (h0 : 0 ≤ v) (h1 : v < 65536) : Ev (fun k => spec_PutNumber.f k v 2) (be 2 v) := by
  have := putSpec_ev v 2 (by omega)
  rwa [put_two v h0 h1] at this
/-- The blocks' numbers and the last one, behind what stands. -/
theorem iloops (m k0 s : Int) (l : List Int) (d : Int) (hl : l.length = 8) (hg : ∀ j : Nat, j < 8 → 0 ≤ rd l (j : Int) ∧ rd l (j : Int) < 2048) (hd : 0 ≤ d ∧ d < 2048) (n : Nat) : ∀ (i : Nat) (a : List Int), i + n = 8 → a.length = 4 + 2 * i →
    ∃ r, Ev (fun k => spec_EncodeInode.l0 k a (i : Int) m k0 s l d) r ∧ Ev (fun k => impl_EncodeInode.l0 k (a ++ List.replicate (2 * n + 12) 0) l (l.length : Int) (i : Int) m k0 s l d) r ∧ r.length = 32 := by
  induction n with
  | zero =>
    intro i a hi ha
    refine ⟨(a ++ be 2 d) ++ List.replicate 10 0, ?_, ?_, by simp only [List.length_append, be_len, List.length_replicate]; omega⟩
    · refine Ev.step (f := fun k => (spec_PutNumber.f k d 2).bind fun t174 => ((spec_l2Join.f a t174).bind fun t177 => ((spec_l2Zero.f 10).bind fun t180 => ((spec_l2Join.f t177 t180).bind fun t183 => (some t183))))) (fun k => by simp only [spec_EncodeInode.l0]; rw [if_neg (by omega)]) ?_
      refine (iput2 d hd.1 (by omega)).bind ?_
      refine Ev.congr (fun k => ?_) (Ev.now _)
      rw [ijoin_some _ _ (by rw [be_len]; omega), Option.bind_some]
      unfold spec_l2Zero.f
      rw [if_pos (by decide), if_pos (by decide), Option.bind_some, ijoin_some _ _ (by simp only [List.length_append, be_len, List.length_replicate]; omega), Option.bind_some]; rfl
    · refine Ev.step (f := fun k => (impl_put.f k (a ++ List.replicate (2 * 0 + 12) 0) 20 d 2).bind fun t218 => (some t218)) (fun k => by simp only [impl_EncodeInode.l0]; rw [if_neg (by omega)]) ?_
      have hp := put2_ev a 10 20 d hd.1 (by omega) (by omega)
      exact hp.bind (Ev.now _)
  | succ n ih =>
    intro i a hi ha
    have hw : wrap64 ((i : Int) + 1) = ((i + 1 : Nat) : Int) := by rw [w64 (by omega) (by omega)]; rfl
    have hw2 : wrap64 (4 + wrap64 (2 * (i : Int))) = (a.length : Int) := by rw [w64 (x := 2 * (i : Int)) (by omega) (by omega), w64 (by omega) (by omega)]; omega
    obtain ⟨g1, g2⟩ := hg i (by omega)
    obtain ⟨r, h1, h2, h3⟩ := ih (i + 1) (a ++ be 2 (rd l (i : Int))) (by omega) (by rw [List.length_append, be_len]; omega)
    refine ⟨r, ?_, ?_, h3⟩
    · refine Ev.step (f := fun k => (spec_PutNumber.f k (rd l (i : Int)) 2).bind fun t168 => ((spec_l2Join.f a t168).bind fun t171 => (spec_EncodeInode.l0 k t171 ((i + 1 : Nat) : Int) m k0 s l d))) (fun k => by simp only [spec_EncodeInode.l0]; rw [if_pos (by omega), if_pos (by omega), hw]) ?_
      refine (iput2 _ g1 (by omega)).bind ?_
      exact Ev.congr (fun k => by rw [ijoin_some _ _ (by rw [be_len]; omega), Option.bind_some]) h1
    · refine Ev.step (f := fun k => (impl_put.f k (a ++ List.replicate (2 * (n + 1) + 12) 0) (a.length : Int) (rd l (i : Int)) 2).bind fun t217 => (impl_EncodeInode.l0 k t217 l (l.length : Int) ((i + 1 : Nat) : Int) m k0 s l d)) (fun k => by simp only [impl_EncodeInode.l0]; rw [if_pos (by omega), if_pos (by omega), if_pos (by omega), hw, hw2]) ?_
      have hp := put2_ev a (2 * n + 12) (a.length : Int) (rd l (i : Int)) g1 (by omega) rfl
      rw [show 2 * (n + 1) + 12 = (2 * n + 12) + 2 by omega]
      exact hp.bind h2
theorem inode (m k0 s : Int) (l : List Int) (d : Int) : ∃ r, Ev (fun k => spec_EncodeInode.f k m k0 s l d) r ∧ Ev (fun k => impl_EncodeInode.f k m k0 s l d) r ∧ r.length ≤ 32 := by
  have hs := VI.spec_ev m k0 s l d
  have hi := VI.impl_ev m k0 s l d
  by_cases h : VI.fullS m k0 s l d
  · rw [VI.val_t h] at hs hi
    obtain ⟨h8, s0, s1, _, _, hg, _⟩ := h
    have hgl : ∀ j : Nat, j < 8 → 0 ≤ rd l (j : Int) ∧ rd l (j : Int) < 2048 := fun j hj => hg _ (List.mem_append_left _ (by rw [rd_nat l j (by omega)]; exact List.getElem_mem _))
    have hgd : 0 ≤ d ∧ d < 2048 := hg d (List.mem_append_right _ List.mem_cons_self)
    obtain ⟨r, h1, h2, h3⟩ := iloops m k0 s l d h8 hgl hgd 8 0 ([m % 256, k0 % 256] ++ be 2 s) rfl (by simp only [List.length_append, be_len, List.length_cons, List.length_nil])
    refine ⟨r, ?_, ?_, by omega⟩
    · unfold spec_EncodeInode.f
      refine hs.bind ?_
      refine Ev.congr (fun k => if_pos rfl) ?_
      refine (iput2 s s0 (by omega)).bind ?_
      exact Ev.congr (fun k => by rw [ijoin_some _ _ (by rw [be_len]; simp), Option.bind_some]; rfl) h1
    · unfold impl_EncodeInode.f
      refine hi.bind ?_
      refine Ev.congr (fun k => by rw [if_pos rfl, if_pos (by decide), Option.bind_some, if_pos (by decide), if_pos (by decide)]) ?_
      have hp : Ev (fun k => impl_put.f k (((List.replicate 32 (0 : Int)).set (0 : Int).toNat (m % 256)).set (1 : Int).toNat (k0 % 256)) 2 s 2) (([m % 256, k0 % 256] ++ be 2 s) ++ List.replicate 28 0) := put2_ev [m % 256, k0 % 256] 28 2 s s0 (by omega) rfl
      exact hp.bind h2
  · rw [VI.val_f h] at hs hi
    refine ⟨[], ?_, ?_, by simp⟩
    · unfold spec_EncodeInode.f
      exact hs.bind (Ev.congr (fun k => if_neg (by simp)) (Ev.now _))
    · unfold impl_EncodeInode.f
      exact hi.bind (Ev.congr (fun k => if_neg (by simp)) (Ev.now _))
/-- The two bytes at a place, as both read them. -/
theorem num_both (l : List Int) (hb : ∀ x ∈ l, 0 ≤ x ∧ x ≤ 255) (hl : l.length = 32) (a : Nat) (ha : a + 2 ≤ 32) : ∃ v, Ev (fun k => spec_GetNumber.f k ((l.take (a + 2)).drop a)) v ∧ Ev (fun k => impl_num.f k l (a : Int) 2) v := by
  have hcut : ∀ x ∈ (l.take (a + 2)).drop a, 0 ≤ x ∧ x ≤ 255 := fun x hx => hb x (List.mem_of_mem_take (List.mem_of_mem_drop hx))
  refine ⟨_, GN.spec_ev _ hcut, ?_⟩
  have hw : wrap64 ((a : Int) + 2) = ((a + 2 : Nat) : Int) := by rw [w64 (by omega) (by omega)]; rfl
  unfold impl_num.f
  refine Ev.congr (fun k => by rw [if_pos (by omega), hw, if_pos (by omega), if_pos (by omega), Int.toNat_natCast, Int.toNat_natCast]) ?_
  exact (GN.impl_ev _ hcut).bind (Ev.now _)
theorem dloops (l : List Int) (hb : ∀ x ∈ l, 0 ≤ x ∧ x ≤ 255) (hl : l.length = 32) (m k0 s d : Int) (n : Nat) : ∀ (i : Nat) (a : List Int), i + n = 8 → a.length = i →
    ∃ r : Bool × Int × Int × Int × List Int × Int, Ev (fun k => spec_DecodeInode.l0 k l (i : Int) m k0 s a d) r ∧ Ev (fun k => impl_DecodeInode.l0 k l (i : Int) m k0 s a d) r ∧ r.2.2.2.2.1.length ≤ 8 := by
  induction n with
  | zero =>
    intro i a hi ha
    obtain ⟨z, h1, h2, _⟩ := inode m k0 s a d
    refine ⟨if ((strOfNums z).toList == (strOfNums l).toList) = true then (true, m, k0, s, a, d) else (false, 0, 0, 0, ([] : List Int), 0), ?_, ?_, by split <;> simp; omega⟩
    · refine Ev.step (fun k => by simp only [spec_DecodeInode.l0]; rw [if_neg (by omega)]) ?_
      refine h1.bind ?_
      refine Ev.congr (fun k => ?_) (Ev.now _)
      show (if ((strOfNums z).toList == (strOfNums l).toList) = true then _ else _) = _
      split <;> rfl
    · refine Ev.step (fun k => by simp only [impl_DecodeInode.l0]; rw [if_neg (by omega)]) ?_
      refine h2.bind ?_
      refine Ev.congr (fun k => ?_) (Ev.now _)
      show (if ((strOfNums z).toList == (strOfNums l).toList) = true then _ else _) = _
      split <;> rfl
  | succ n ih =>
    intro i a hi ha
    have hw : wrap64 ((i : Int) + 1) = ((i + 1 : Nat) : Int) := by rw [w64 (by omega) (by omega)]; rfl
    have hw4 : wrap64 (4 + wrap64 (2 * (i : Int))) = ((4 + 2 * i : Nat) : Int) := by rw [w64 (x := 2 * (i : Int)) (by omega) (by omega), w64 (by omega) (by omega)]; omega
    have hw6 : wrap64 (6 + wrap64 (2 * (i : Int))) = ((4 + 2 * i + 2 : Nat) : Int) := by rw [w64 (x := 2 * (i : Int)) (by omega) (by omega), w64 (by omega) (by omega)]; omega
    obtain ⟨v, g1, g2⟩ := num_both l hb hl (4 + 2 * i) (by omega)
    obtain ⟨r, h1, h2, h3⟩ := ih (i + 1) (a ++ [v]) (by omega) (by simp; omega)
    refine ⟨r, ?_, ?_, h3⟩
    · refine Ev.step (f := fun k => (spec_GetNumber.f k ((l.take (4 + 2 * i + 2)).drop (4 + 2 * i))).bind fun t199 => (if a.length < 17592186044416 then (spec_DecodeInode.l0 k l ((i + 1 : Nat) : Int) m k0 s (a ++ [t199]) d) else (none))) (fun k => by simp only [spec_DecodeInode.l0]; rw [if_pos (by omega), hw4, hw6, hw, if_pos (by omega), if_pos (by omega), if_pos (by omega), Int.toNat_natCast, Int.toNat_natCast]) ?_
      refine g1.bind ?_
      exact Ev.congr (fun k => if_pos (by omega)) h1
    · refine Ev.step (f := fun k => (impl_num.f k l ((4 + 2 * i : Nat) : Int) 2).bind fun t239 => (if a.length < 17592186044416 then (impl_DecodeInode.l0 k l ((i + 1 : Nat) : Int) m k0 s (a ++ [t239]) d) else (none))) (fun k => by simp only [impl_DecodeInode.l0]; rw [if_pos (by omega), hw4, hw]) ?_
      refine g2.bind ?_
      exact Ev.congr (fun k => if_pos (by omega)) h2
theorem uninode (l : List Int) (hb : ∀ x ∈ l, 0 ≤ x ∧ x ≤ 255) : ∃ r : Bool × Int × Int × Int × List Int × Int, Ev (fun k => spec_DecodeInode.f k l) r ∧ Ev (fun k => impl_DecodeInode.f k l) r ∧ r.2.2.2.2.1.length ≤ 8 := by
  by_cases h : (l.length : Int) = 32
  · have hl : l.length = 32 := by omega
    obtain ⟨s, s1, s2⟩ := num_both l hb hl 2 (by omega)
    obtain ⟨d, d1, d2⟩ := num_both l hb hl 20 (by omega)
    obtain ⟨r, h1, h2, h3⟩ := dloops l hb hl (wrap64 (rd l 0)) (wrap64 (rd l 1)) s d 8 0 [] rfl rfl
    refine ⟨r, ?_, ?_, h3⟩
    · refine Ev.congr (fun k => by unfold spec_DecodeInode.f; rw [if_pos h, if_pos (by omega), if_pos (by omega), if_pos (by decide), if_pos (by omega)]) ?_
      refine s1.bind ?_
      refine Ev.congr (fun k => by rw [if_pos (by decide), if_pos (by omega)]) ?_
      exact d1.bind h1
    · refine Ev.congr (fun k => by unfold impl_DecodeInode.f; rw [if_pos h, if_pos (by omega), if_pos (by omega)]) ?_
      exact s2.bind (d2.bind h2)
  · exact ⟨_, Ev.congr (fun k => by unfold spec_DecodeInode.f; rw [if_neg h]) (Ev.now (false, 0, 0, 0, ([] : List Int), 0)), Ev.congr (fun k => by unfold impl_DecodeInode.f; rw [if_neg h]) (Ev.now _), by simp⟩
theorem eqRes (g : Bool) (m k0 s : Int) (l : List Int) (d : Int) (hl : l.length ≤ 1048576) : Ev (fun k => laws_eqInodeResult.f k g m k0 s l d g m k0 s l d) true := by
  unfold laws_eqInodeResult.f laws_eqInode.f
  refine Ev.congr (fun k => by rw [if_neg (by simp), if_pos rfl, if_pos rfl, if_pos rfl]) ?_
  have h1 : Ev (fun k => (laws_eqInt64S.f k l l).bind fun t223 => (if t223 = true then (if d = d then (some true) else (some false)) else (some false))) true := by
    refine (eqS_ev (F := laws_eqInt64S.f) (fun _ _ _ => rfl) (fun _ _ _ _ => rfl) l (by omega)).bind ?_
    exact Ev.congr (fun k => by rw [if_pos rfl, if_pos rfl]) (Ev.now true)
  exact h1.bind (Ev.congr (fun k => if_pos rfl) (Ev.now true))
theorem markRes (g : Bool) (m k0 s : Int) (l : List Int) (d : Int) (hl : l.length ≤ 1048576) : Ev (fun k => laws_markInodeResult.f k g m k0 s l d 1) (1 + l.length, marks (fun x => x) 1 l.length) := by
  have mt : Ev (fun k => laws_markInt64S.f k l 1) _ := mark_ev (fun x => x) (L := laws_markInt64S.l0) (fun _ _ _ _ => rfl) l 1 (by omega) (by omega)
  unfold laws_markInodeResult.f laws_markInode.f
  exact (show Ev (fun k => (laws_markInt64S.f k l 1).bind fun bt => some (bt.1, bt.2)) _ from mt.bind (Ev.now _)).bind (Ev.now _)
theorem heldRes (g : Bool) (m k0 s : Int) (n : Nat) (d : Int) (hl : n ≤ 1048576) : Ev (fun k => laws_heldInodeResult.f k g m k0 s (marks (fun x => x) 1 n) d 1) (1 + n) := by
  have hd : Ev (fun k => laws_heldInt64S.f k _ 1) _ := held_ev (fun x => x) (L := laws_heldInt64S.l0) (fun _ _ _ _ => rfl) n 1 (by omega) (by omega)
  unfold laws_heldInodeResult.f laws_heldInode.f
  refine (show Ev (fun k => (laws_heldInt64S.f k (marks (fun x => x) 1 n) 1).bind fun t => (if t < 0 then (some (-1)) else (some t))) ((1 : Int) + n) from hd.bind (Ev.congr (fun k => if_neg (by omega)) (Ev.now _))).bind ?_
  exact Ev.congr (fun k => if_neg (by omega)) (Ev.now _)
end EP
theorem FnExactDecodeInode : laws_FnExactDecodeInode.Pure := by
  intro l _ hl hw
  by_cases h : (l.length : Int) > 1048576
  · exact ⟨0, by unfold laws_FnExactDecodeInode.f; rw [if_pos h]⟩
  have t := toS_ev (F := laws_toByteS.f) (fun _ _ => rfl) (fun _ _ _ _ => rfl) l (by omega) (by omega)
  have et := eqS_ev (F := laws_eqByteS.f) (fun _ _ _ => rfl) (fun _ _ _ _ => rfl) l (by omega)
  have mt : Ev (fun k => laws_markByteS.f k l 1) _ := mark_ev (fun x => x % 256) (L := laws_markByteS.l0) (fun _ _ _ _ => rfl) l 1 (by omega) (by omega)
  obtain ⟨⟨g, m, k0, s, q, d⟩, hs, hi, hr⟩ := EP.uninode l (fun x hx => wfb (hw x hx))
  have hq : q.length ≤ 8 := hr
  have e := EP.eqRes g m k0 s q d (by omega)
  have mk := EP.markRes g m k0 s q d (by omega)
  have hd := EP.heldRes g m k0 s q.length d (by omega)
  refine Ev.rounds (Ev.congr (fun k => by unfold laws_FnExactDecodeInode.f; rw [if_neg h]) ?_)
  refine t.bind ?_
  refine hs.bind ?_
  refine t.bind ?_
  refine hi.bind ?_
  refine e.bind ?_
  refine Ev.congr (fun k => if_pos rfl) ?_
  refine t.bind ?_
  refine et.bind ?_
  refine Ev.congr (fun k => if_pos rfl) ?_
  refine mt.bind ?_
  refine Ev.congr (fun k => if_neg (by simp only; omega)) ?_
  refine e.bind ?_
  refine Ev.step (fun k => by simp only [laws_FnExactDecodeInode.j0]; rw [if_neg (by decide)]) ?_
  refine mk.bind ?_
  refine hd.bind ?_
  refine Ev.congr (fun k => if_neg (by omega)) ?_
  refine Ev.congr (fun k => if_pos rfl) ?_
  refine t.bind ?_
  refine hi.bind ?_
  refine e.bind ?_
  refine Ev.congr (fun k => if_pos rfl) ?_
  refine hd.bind ?_
  refine Ev.congr (fun k => if_neg (by omega)) ?_
  exact Ev.congr (fun k => if_pos rfl) (Ev.now true)
end Go.Proofs.Ytplefdkookhlhaa.Pure
