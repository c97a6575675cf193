/- FnExactValidInode: at every inode the program's ValidInode answers as the reference's, and the inode stays as it was. -/
import Derived.Test.YtplefdkookhlhaaPFnExactValidInodex
import Derived.Test.YtplefdkookhlhaaHlp2
namespace Go.Proofs.Ytplefdkookhlhaa.Pure
open Go.RowKit Go.Proofs.Ytplefdkookhlhaa.PFnExactValidInode Go.Proofs.YtplefdkookhlhaaW.PrintWords Go.Proofs.YtplefdkookhlhaaW.PrintLast Go.Proofs.YtplefdkookhlhaaW.PrintMore Go.Proofs.Ytplefdkookhlhaa.Hlp
namespace VI
def gb (x : Int) : Prop := 0 ≤ x ∧ x < 2048
instance (x : Int) : Decidable (gb x) := by unfold gb; infer_instance
theorem spec_gb (x : Int) : spec_l3GoodBlock.f x = some (decide (gb x)) := by
  unfold spec_l3GoodBlock.f
  by_cases c : x ≥ 0
  · rw [if_pos c, show decide (x < 2048) = decide (gb x) from decide_eq_decide.2 (by unfold gb; omega)]
  · rw [if_neg c, show decide (gb x) = false from decide_eq_false (by unfold gb; omega)]
theorem impl_in_ (x a b : Int) : impl_in.f x a b = some (decide (a ≤ x ∧ x ≤ b)) := by
  unfold impl_in.f
  by_cases c : x ≥ a
  · rw [if_pos c]; congr 1; rw [decide_eq_decide]; omega
  · rw [if_neg c]; congr 1; rw [eq_comm, decide_eq_false_iff_not]; omega
/-- What the reference asks of the place j. -/
def cS (m s : Int) (xs : List Int) (j : Nat) : Prop := ((j : Int) * 64 ≥ s → rd xs j = 0) ∧ ((j : Int) * 64 < s → m ≠ 1 → rd xs j ≠ 0)
/-- What the program asks of the place j. -/
def cI (m s : Int) (xs : List Int) (j : Nat) : Prop := gb (rd xs j) ∧ (m ≠ 0 → (j : Int) * 64 ≥ s → rd xs j = 0) ∧ ((m = 2 ∨ m = 3) → (j : Int) * 64 < s → rd xs j ≠ 0)
theorem spec_l0 (m k0 s : Int) (l : List Int) (d : Int) (xs : List Int) (hx : xs.length = 9) (r : Bool) : ∀ t, 0 ≤ t → t ≤ 2568 →
    ((∃ x ∈ xs, ¬ gb x) → Ev (fun k => spec_ValidInode.l0 k xs t 0 m k0 s l d) false) ∧ ((∀ x ∈ xs, gb x) → Ev (fun k => spec_ValidInode.l0 k xs (t + xs.sum) 9 m k0 s l d) r → Ev (fun k => spec_ValidInode.l0 k xs t 0 m k0 s l d) r) := by
  have key := down (P := fun i => ∀ t, 0 ≤ t → t ≤ 2568 + 2047 * (i : Int) →
    ((∃ x ∈ xs.drop i, ¬ gb x) → Ev (fun k => spec_ValidInode.l0 k xs t (i : Int) m k0 s l d) false) ∧ ((∀ x ∈ xs.drop i, gb x) → Ev (fun k => spec_ValidInode.l0 k xs (t + (xs.drop i).sum) 9 m k0 s l d) r → Ev (fun k => spec_ValidInode.l0 k xs t (i : Int) m k0 s l d) r)) xs.length ?_ ?_
  · intro t h0 h1
    have := key t h0 (by omega)
    simpa using this
  · intro t h0 h1
    rw [List.drop_length]
    refine ⟨fun ⟨x, hx, _⟩ => (by cases hx), fun _ h => ?_⟩
    rw [hx]; simpa using h
  · intro i hi ih t h0 h1
    have hw : wrap64 ((i : Int) + 1) = ((i + 1 : Nat) : Int) := by rw [w64 (by omega) (by omega)]; rfl
    rw [List.drop_eq_getElem_cons hi]
    by_cases g : gb xs[i]
    · have g' := g
      unfold gb at g'
      have hw2 : wrap64 (t + xs[i]) = t + xs[i] := w64 (by omega) (by omega)
      obtain ⟨h2, h3⟩ := ih (t + xs[i]) (by omega) (by omega)
      have st : ∀ q, Ev (fun k => spec_ValidInode.l0 k xs (t + xs[i]) ((i + 1 : Nat) : Int) m k0 s l d) q → Ev (fun k => spec_ValidInode.l0 k xs t (i : Int) m k0 s l d) q := fun q h =>
        Ev.step (fun k => by simp only [spec_ValidInode.l0]; rw [if_pos (by omega), if_pos (by omega), spec_gb, rd_nat xs i hi, Option.bind_some, if_pos (decide_eq_true g), hw, hw2]) h
      refine ⟨fun ⟨x, hx, hn⟩ => st _ (h2 ?_), fun ha h => st _ (h3 (fun x hx => ha x (List.mem_cons_of_mem _ hx)) ?_)⟩
      · rcases List.mem_cons.1 hx with rfl | hx
        · exact absurd g hn
        · exact ⟨x, hx, hn⟩
      · rw [List.sum_cons] at h
        rw [Int.add_assoc]; exact h
    · refine ⟨fun _ => ?_, fun ha => absurd (ha _ List.mem_cons_self) g⟩
      exact Ev.step (f := fun _ => some false) (fun k => by simp only [spec_ValidInode.l0]; rw [if_pos (by omega), if_pos (by omega), spec_gb, rd_nat xs i hi, Option.bind_some, if_neg (by simpa using g)]) (Ev.now _)
theorem spec_l1 (m k0 s : Int) (l : List Int) (d : Int) (xs : List Int) (hx : xs.length = 9) :
    ((∃ j, j < 9 ∧ ¬ cS m s xs j) → Ev (fun k => spec_ValidInode.l1 k xs 0 m k0 s l d) false) ∧ ((∀ j, j < 9 → cS m s xs j) → Ev (fun k => spec_ValidInode.l1 k xs 0 m k0 s l d) (decide (k0 ≥ 1 ∨ m = 1))) := by
  have key := down (P := fun i => ((∃ j, i ≤ j ∧ j < 9 ∧ ¬ cS m s xs j) → Ev (fun k => spec_ValidInode.l1 k xs (i : Int) m k0 s l d) false) ∧ ((∀ j, i ≤ j → j < 9 → cS m s xs j) → Ev (fun k => spec_ValidInode.l1 k xs (i : Int) m k0 s l d) (decide (k0 ≥ 1 ∨ m = 1)))) 9 ?_ ?_
  · refine ⟨fun ⟨j, h1, h2⟩ => key.1 ⟨j, by omega, h1, h2⟩, fun h => key.2 (fun j _ h1 => h j h1)⟩
  · refine ⟨fun ⟨j, h1, h2, _⟩ => by omega, fun _ => ?_⟩
    by_cases c : k0 ≥ 1
    · rw [decide_eq_true (Or.inl c)]
      exact Ev.step (f := fun _ => some true) (fun k => by simp only [spec_ValidInode.l1]; rw [if_neg (by omega), if_pos c]) (Ev.now _)
    · refine Ev.step (f := fun _ => some (decide (k0 ≥ 1 ∨ m = 1))) (fun k => ?_) (Ev.now _)
      simp only [spec_ValidInode.l1]; rw [if_neg (by omega), if_neg c]
      congr 1
      by_cases e : m = 1
      · rw [decide_eq_true (Or.inr e), show (m == 1) = true by simpa using e]
      · rw [decide_eq_false (by omega), show (m == 1) = false by simpa using e]
  · intro i hi ⟨h1, h2⟩
    have hw : wrap64 ((i : Int) + 1) = ((i + 1 : Nat) : Int) := by rw [w64 (by omega) (by omega)]; rfl
    have hw2 : wrap64 ((i : Int) * 64) = (i : Int) * 64 := w64 (by omega) (by omega)
    by_cases c : cS m s xs i
    · have st : ∀ q, Ev (fun k => spec_ValidInode.l1 k xs ((i + 1 : Nat) : Int) m k0 s l d) q → Ev (fun k => spec_ValidInode.l1 k xs (i : Int) m k0 s l d) q := fun q h => Ev.step (fun k => by
        simp only [spec_ValidInode.l1]
        rw [if_pos (by omega), hw2, hw]
        by_cases e : (i : Int) * 64 ≥ s
        · rw [if_pos e, if_pos (by omega), if_pos (by omega), if_pos (c.1 e), if_pos e]
        · rw [if_neg e, if_neg e]
          by_cases e2 : m = 1
          · rw [if_pos e2]
          · rw [if_neg e2, if_pos (by omega), if_pos (by omega), if_neg (c.2 (by omega) e2)]) h
      refine ⟨fun ⟨j, a, b, h⟩ => st _ (h1 ⟨j, ?_, b, h⟩), fun h => st _ (h2 (fun j a b => h j (by omega) b))⟩
      rcases Nat.eq_or_lt_of_le a with rfl | a
      · exact absurd c h
      · exact a
    · refine ⟨fun _ => ?_, fun h => absurd (h i (Nat.le_refl _) hi) c⟩
      refine Ev.step (f := fun _ => some false) (fun k => ?_) (Ev.now _)
      simp only [spec_ValidInode.l1]
      rw [if_pos (by omega), hw2, hw]
      by_cases e : (i : Int) * 64 ≥ s
      · have e3 : ¬ rd xs i = 0 := fun h => c ⟨fun _ => h, fun h2 => by omega⟩
        rw [if_pos e, if_pos (by omega), if_pos (by omega), if_neg e3]
      · rw [if_neg e, if_neg e]
        by_cases e2 : m = 1
        · exact absurd ⟨fun h => absurd h e, fun _ h => absurd e2 h⟩ c
        · have e3 : rd xs i = 0 := by
            by_cases h : rd xs i = 0
            · exact h
            · exact absurd ⟨fun h => absurd h e, fun _ _ => h⟩ c
          rw [if_neg e2, if_pos (by omega), if_pos (by omega), if_pos e3]
def fullS (m k0 s : Int) (l : List Int) (d : Int) : Prop := l.length = 8 ∧ 0 ≤ s ∧ s ≤ 2560 ∧ 0 ≤ k0 ∧ k0 ≤ 8 ∧ (∀ x ∈ l ++ [d], gb x) ∧
  ((m = 0 ∧ s + k0 + (l ++ [d]).sum = 0) ∨ ((m = 1 ∨ (m = 2 ∧ k0 = 1 ∧ s % 16 = 0) ∨ (m = 3 ∧ 1 ≤ s ∧ s ≤ 240)) ∧ (∀ j, j < 9 → cS m s (l ++ [d]) j) ∧ (k0 ≥ 1 ∨ m = 1)))
def fullI (m k0 s : Int) (l : List Int) (d : Int) : Prop := l.length = 8 ∧ gb d ∧ (∀ j, j < 8 → cI m s l j) ∧
  ((m = 0 ∧ k0 = 0 ∧ s = 0 ∧ d = 0 ∧ ∀ j : Nat, j < 8 → rd l j = 0) ∨ ((m = 1 ∨ (m = 2 ∧ k0 = 1 ∧ s % 16 = 0) ∨ (m = 3 ∧ 1 ≤ s ∧ s ≤ 240)) ∧ (if m = 1 then 0 else 1) ≤ k0 ∧ k0 ≤ 8 ∧ 0 ≤ s ∧ s ≤ 2560 ∧ (s ≤ 512 → d = 0) ∧ (512 < s → m ≠ 1 → d ≠ 0)))
theorem mem_rd (l : List Int) (x : Int) : x ∈ l ↔ ∃ j : Nat, j < l.length ∧ rd l j = x := by
  constructor
  · intro h
    obtain ⟨j, hj, rfl⟩ := List.getElem_of_mem h
    exact ⟨j, hj, rd_nat l j hj⟩
  · rintro ⟨j, hj, rfl⟩
    rw [rd_nat l j hj]; exact List.getElem_mem _
theorem rd_app (l : List Int) (d : Int) (h : l.length = 8) : (∀ j : Nat, j < 8 → rd (l ++ [d]) j = rd l j) ∧ rd (l ++ [d]) ((8 : Nat) : Int) = d := by
  constructor
  · intro j hj
    rw [rd_nat _ j (by simp; omega), rd_nat l j (by omega), List.getElem_append_left]
  · rw [rd_nat _ 8 (by simp; omega), List.getElem_append_right (by omega)]; simp
theorem sum_zero (l : List Int) (h : ∀ x ∈ l, 0 ≤ x) : 0 ≤ l.sum ∧ (l.sum = 0 ↔ ∀ x ∈ l, x = 0) := by
  induction l with
  | nil => simp
  | cons a r ih =>
    obtain ⟨h1, h2⟩ := ih (fun x hx => h x (List.mem_cons_of_mem _ hx))
    have ha := h a List.mem_cons_self
    rw [List.sum_cons]
    refine ⟨by omega, fun e x hx => ?_, fun e => ?_⟩
    · rcases List.mem_cons.1 hx with rfl | hx
      · omega
      · exact h2.1 (by omega) x hx
    · have := e a List.mem_cons_self
      have := h2.2 (fun x hx => e x (List.mem_cons_of_mem _ hx))
      omega
theorem full_iff (m k0 s : Int) (l : List Int) (d : Int) : fullS m k0 s l d ↔ fullI m k0 s l d := by
  unfold fullS fullI
  constructor
  · rintro ⟨hl, h1, h2, h3, h4, hg, hk⟩
    obtain ⟨ra, rb⟩ := rd_app l d hl
    have gl : ∀ j : Nat, j < 8 → gb (rd l j) := fun j hj => hg _ (List.mem_append_left _ ((mem_rd l _).2 ⟨j, by omega, rfl⟩))
    have gd : gb d := hg d (by simp)
    rcases hk with ⟨hm, hz⟩ | ⟨hm, hc, hk⟩
    · obtain ⟨z1, z2⟩ := sum_zero (l ++ [d]) (fun x hx => (hg x hx).1)
      have z3 := z2.1 (by omega)
      have zl : ∀ j : Nat, j < 8 → rd l j = 0 := fun j hj => z3 _ (List.mem_append_left _ ((mem_rd l _).2 ⟨j, by omega, rfl⟩))
      exact ⟨hl, gd, fun j hj => ⟨gl j hj, fun h => absurd hm h, fun h => by omega⟩, Or.inl ⟨hm, by omega, by omega, z3 d (by simp), zl⟩⟩
    · refine ⟨hl, gd, fun j hj => ⟨gl j hj, fun _ h => ?_, fun h1 h2 => ?_⟩, Or.inr ⟨hm, ?_, h4, h1, h2, fun h => ?_, fun h5 h6 => ?_⟩⟩
      · have := (hc j (by omega)).1 h; rwa [ra j hj] at this
      · have := (hc j (by omega)).2 h2 (by omega); rwa [ra j hj] at this
      · split <;> omega
      · have := (hc 8 (by omega)).1 (by omega); rwa [rb] at this
      · have := (hc 8 (by omega)).2 (by omega) h6; rwa [rb] at this
  · rintro ⟨hl, gd, hi, hk⟩
    obtain ⟨ra, rb⟩ := rd_app l d hl
    have hg : ∀ x ∈ l ++ [d], gb x := by
      intro x hx
      rcases List.mem_append.1 hx with hx | hx
      · obtain ⟨j, hj, rfl⟩ := (mem_rd l x).1 hx
        exact (hi j (by omega)).1
      · rw [List.mem_singleton.1 hx]; exact gd
    rcases hk with ⟨hm, h1, h2, h3, h4⟩ | ⟨hm, h1, h2, h3, h4, h5, h6⟩
    · refine ⟨hl, by omega, by omega, by omega, by omega, hg, Or.inl ⟨hm, ?_⟩⟩
      have := (sum_zero (l ++ [d]) (fun x hx => (hg x hx).1)).2.2 (fun x hx => ?_)
      · omega
      · rcases List.mem_append.1 hx with hx | hx
        · obtain ⟨j, hj, rfl⟩ := (mem_rd l x).1 hx
          exact h4 j (by omega)
        · rw [List.mem_singleton.1 hx]; exact h3
    · have hk : k0 ≥ 1 ∨ m = 1 := by split at h1 <;> omega
      refine ⟨hl, h3, h4, by split at h1 <;> omega, h2, hg, Or.inr ⟨hm, fun j hj => ?_, hk⟩⟩
      rcases Nat.lt_or_ge j 8 with h | h
      · obtain ⟨_, b, c⟩ := hi j h
        unfold cS
        rw [ra j h]
        exact ⟨fun e => b (by omega) e, fun e e2 => c (by omega) e⟩
      · have : j = 8 := by omega
        subst this
        unfold cS
        rw [rb]
        exact ⟨fun e => h5 (by omega), fun e e2 => h6 (by omega) e2⟩
open Classical in
noncomputable def val (m k0 s : Int) (l : List Int) (d : Int) : Bool := decide (fullS m k0 s l d)
open Classical in
theorem val_t {m k0 s : Int} {l : List Int} {d : Int} (h : fullS m k0 s l d) : val m k0 s l d = true := by unfold val; exact decide_eq_true h
open Classical in
theorem val_f {m k0 s : Int} {l : List Int} {d : Int} (h : ¬ fullS m k0 s l d) : val m k0 s l d = false := by unfold val; exact decide_eq_false h
theorem spec_ev (m k0 s : Int) (l : List Int) (d : Int) : Ev (fun k => spec_ValidInode.f k m k0 s l d) (val m k0 s l d) := by
  have jt : Ev (fun k => spec_ValidInode.j0 k true m k0 s l d) false := Ev.step (f := fun _ => some false) (fun k => by simp only [spec_ValidInode.j0]; rw [if_pos trivial]) (Ev.now _)
  by_cases hl : (l.length : Int) = 8
  rotate_left
  · rw [val_f (fun h => hl (by have := h.1; omega))]
    exact Ev.congr (fun k => by unfold spec_ValidInode.f; rw [if_neg hl]) jt
  by_cases c1 : s < 0
  · rw [val_f (fun h => by have := h.2.1; omega)]
    exact Ev.congr (fun k => by unfold spec_ValidInode.f; rw [if_pos hl, if_pos c1]) jt
  by_cases c2 : s > 2560
  · rw [val_f (fun h => by have := h.2.2.1; omega)]
    exact Ev.congr (fun k => by unfold spec_ValidInode.f; rw [if_pos hl, if_neg c1, if_pos c2]) jt
  by_cases c3 : k0 < 0
  · rw [val_f (fun h => by have := h.2.2.2.1; omega)]
    exact Ev.congr (fun k => by unfold spec_ValidInode.f; rw [if_pos hl, if_neg c1, if_neg c2, if_pos c3]) jt
  by_cases c4 : k0 > 8
  · rw [val_f (fun h => by have := h.2.2.2.2.1; omega)]
    exact Ev.congr (fun k => by unfold spec_ValidInode.f; rw [if_pos hl, if_neg c1, if_neg c2, if_neg c3, decide_eq_true c4]) jt
  refine Ev.congr (fun k => by unfold spec_ValidInode.f; rw [if_pos hl, if_neg c1, if_neg c2, if_neg c3, decide_eq_false c4]) ?_
  have hx : (l ++ [d]).length = 9 := by simp; omega
  refine Ev.step (f := fun k => spec_ValidInode.l0 k (l ++ [d]) (s + k0) 0 m k0 s l d) (fun k => by
    simp only [spec_ValidInode.j0, Option.bind_some, List.nil_append]
    rw [if_neg (by decide), if_pos (by simp; omega), if_pos (by omega), w64 (x := s + k0) (by omega) (by omega)]) ?_
  have L := fun r => spec_l0 m k0 s l d (l ++ [d]) hx r (s + k0) (by omega) (by omega)
  by_cases hg : ∀ x ∈ l ++ [d], gb x
  rotate_left
  · rw [val_f (fun h => hg h.2.2.2.2.2.1)]
    refine (L false).1 ?_
    by_cases h : ∃ x ∈ l ++ [d], ¬ gb x
    · exact h
    · exact absurd (fun x hx => by
        by_cases g : gb x
        · exact g
        · exact absurd ⟨x, hx, g⟩ h) hg
  refine (L _).2 hg ?_
  have z := sum_zero (l ++ [d]) (fun x hx => (hg x hx).1)
  have base : (l.length = 8 ∧ 0 ≤ s ∧ s ≤ 2560 ∧ 0 ≤ k0 ∧ k0 ≤ 8 ∧ (∀ x ∈ l ++ [d], gb x)) := ⟨by omega, by omega, by omega, by omega, by omega, hg⟩
  have fin : ∀ (hm : m = 1 ∨ (m = 2 ∧ k0 = 1 ∧ s % 16 = 0) ∨ (m = 3 ∧ 1 ≤ s ∧ s ≤ 240)), Ev (fun k => spec_ValidInode.j2 k (l ++ [d]) m k0 s l d) (val m k0 s l d) := fun hm => by
    have q := spec_l1 m k0 s l d (l ++ [d]) hx
    refine Ev.step (f := fun k => spec_ValidInode.l1 k (l ++ [d]) 0 m k0 s l d) (fun k => rfl) ?_
    by_cases hc : ∀ j, j < 9 → cS m s (l ++ [d]) j
    · by_cases hk : k0 ≥ 1 ∨ m = 1
      · rw [val_t ⟨base.1, base.2.1, base.2.2.1, base.2.2.2.1, base.2.2.2.2.1, hg, Or.inr ⟨hm, hc, hk⟩⟩]
        have := q.2 hc
        rwa [decide_eq_true hk] at this
      · rw [val_f (fun h => by
          rcases h.2.2.2.2.2.2 with ⟨a, _⟩ | ⟨_, _, b⟩
          · omega
          · exact hk b)]
        have := q.2 hc
        rwa [decide_eq_false hk] at this
    · rw [val_f (fun h => by
          rcases h.2.2.2.2.2.2 with ⟨a, _⟩ | ⟨_, b, _⟩
          · omega
          · exact hc b)]
      refine q.1 ?_
      by_cases h : ∃ j, j < 9 ∧ ¬ cS m s (l ++ [d]) j
      · exact h
      · exact absurd (fun j hj => by
          by_cases g : cS m s (l ++ [d]) j
          · exact g
          · exact absurd ⟨j, hj, g⟩ h) hc
  have no : ¬ (m = 0) → ¬ (m = 1 ∨ (m = 2 ∧ k0 = 1 ∧ s % 16 = 0) ∨ (m = 3 ∧ 1 ≤ s ∧ s ≤ 240)) → val m k0 s l d = false := fun n0 n1 => val_f (fun h => by
    rcases h.2.2.2.2.2.2 with ⟨a, _⟩ | ⟨b, _, _⟩
    · exact n0 a
    · exact n1 b)
  have tm : Int.tmod s 16 = s % 16 := Int.tmod_eq_emod_of_nonneg (by omega)
  by_cases m0 : m = 0
  · refine Ev.step (f := fun _ => some (s + k0 + (l ++ [d]).sum == 0)) (fun k => by simp only [spec_ValidInode.l0]; rw [if_neg (by omega), if_pos m0]) ?_
    by_cases e : s + k0 + (l ++ [d]).sum = 0
    · rw [val_t ⟨base.1, base.2.1, base.2.2.1, base.2.2.2.1, base.2.2.2.2.1, hg, Or.inl ⟨m0, e⟩⟩, show (s + k0 + (l ++ [d]).sum == 0) = true by simpa using e]
      exact Ev.now _
    · rw [val_f (fun h => by
        rcases h.2.2.2.2.2.2 with ⟨_, a⟩ | ⟨b, _, _⟩
        · exact e a
        · omega), show (s + k0 + (l ++ [d]).sum == 0) = false by simpa using e]
      exact Ev.now _
  by_cases m1 : m = 1
  · exact Ev.step (fun k => by simp only [spec_ValidInode.l0]; rw [if_neg (by omega), if_neg m0, if_pos m1]) (fin (Or.inl m1))
  by_cases m2 : m = 2
  · by_cases k1 : k0 = 1
    · by_cases t : s % 16 = 0
      · exact Ev.step (fun k => by simp only [spec_ValidInode.l0]; rw [if_neg (by omega), if_neg m0, if_neg m1, if_pos m2, if_pos k1, tm, if_pos t]) (fin (Or.inr (Or.inl ⟨m2, k1, t⟩)))
      · rw [no m0 (by omega)]
        exact Ev.step (f := fun _ => some false) (fun k => by simp only [spec_ValidInode.l0]; rw [if_neg (by omega), if_neg m0, if_neg m1, if_pos m2, if_pos k1, tm, if_neg t]) (Ev.now _)
    · rw [no m0 (by omega)]
      exact Ev.step (f := fun _ => some false) (fun k => by simp only [spec_ValidInode.l0]; rw [if_neg (by omega), if_neg m0, if_neg m1, if_pos m2, if_neg k1]) (Ev.now _)
  by_cases m3 : m = 3
  · by_cases s1 : s < 1
    · rw [no m0 (by omega)]
      exact Ev.step (f := fun _ => some false) (fun k => by simp only [spec_ValidInode.l0]; rw [if_neg (by omega), if_neg m0, if_neg m1, if_neg m2, if_pos m3, if_pos s1]) (Ev.now _)
    · by_cases s2 : s > 240
      · rw [no m0 (by omega)]
        exact Ev.step (f := fun _ => some false) (fun k => by simp only [spec_ValidInode.l0]; rw [if_neg (by omega), if_neg m0, if_neg m1, if_neg m2, if_pos m3, if_neg s1, if_pos s2]) (Ev.now _)
      · exact Ev.step (fun k => by simp only [spec_ValidInode.l0]; rw [if_neg (by omega), if_neg m0, if_neg m1, if_neg m2, if_pos m3, if_neg s1, if_neg s2]) (fin (Or.inr (Or.inr ⟨m3, by omega, by omega⟩)))
  · rw [no m0 (by omega)]
    exact Ev.step (f := fun _ => some false) (fun k => by simp only [spec_ValidInode.l0]; rw [if_neg (by omega), if_neg m0, if_neg m1, if_neg m2, if_neg m3]) (Ev.now _)
theorem impl_l0 (m k0 s : Int) (l : List Int) (d : Int) (hl : l.length = 8) (r : Bool) : ∀ a : Bool,
    ((∃ j, j < 8 ∧ ¬ cI m s l j) → Ev (fun k => impl_ValidInode.l0 k a l 8 0 m k0 s l d) false) ∧
    ((∀ j, j < 8 → cI m s l j) → (∀ b : Bool, (b = false ↔ (a = false ∧ ∀ j : Nat, j < 8 → rd l j = 0)) → Ev (fun k => impl_ValidInode.l0 k b l 8 8 m k0 s l d) r) → Ev (fun k => impl_ValidInode.l0 k a l 8 0 m k0 s l d) r) := by
  have key := down (P := fun i => ∀ a : Bool, ((∃ j, i ≤ j ∧ j < 8 ∧ ¬ cI m s l j) → Ev (fun k => impl_ValidInode.l0 k a l 8 (i : Int) m k0 s l d) false) ∧
    ((∀ j, i ≤ j → j < 8 → cI m s l j) → (∀ b : Bool, (b = false ↔ (a = false ∧ ∀ j : Nat, i ≤ j → j < 8 → rd l j = 0)) → Ev (fun k => impl_ValidInode.l0 k b l 8 8 m k0 s l d) r) → Ev (fun k => impl_ValidInode.l0 k a l 8 (i : Int) m k0 s l d) r)) 8 ?_ ?_
  · intro a
    refine ⟨fun ⟨j, h1, h2⟩ => (key a).1 ⟨j, by omega, h1, h2⟩, fun h1 h2 => (key a).2 (fun j _ h => h1 j h) (fun b hb => h2 b ?_)⟩
    rw [hb]
    exact ⟨fun ⟨x, y⟩ => ⟨x, fun j hj => y j (by omega) hj⟩, fun ⟨x, y⟩ => ⟨x, fun j _ hj => y j hj⟩⟩
  · intro a
    refine ⟨fun ⟨j, h1, h2, _⟩ => by omega, fun _ h => h a ?_⟩
    exact ⟨fun h => ⟨h, fun j h1 h2 => by omega⟩, fun h => h.1⟩
  · intro i hi ih a
    have hw : wrap64 ((i : Int) + 1) = ((i + 1 : Nat) : Int) := by rw [w64 (by omega) (by omega)]; rfl
    have hw2 : wrap64 ((i : Int) * 64) = (i : Int) * 64 := w64 (by omega) (by omega)
    let v := rd l (i : Int)
    have hv : rd l (i : Int) = v := rfl
    clear_value v
    by_cases c : cI m s l i
    · have st : ∀ q, Ev (fun k => impl_ValidInode.l0 k (a || v != 0) l 8 ((i + 1 : Nat) : Int) m k0 s l d) q → Ev (fun k => impl_ValidInode.l0 k a l 8 (i : Int) m k0 s l d) q := fun q h => by
        obtain ⟨g, c1, c2⟩ := c
        rw [hv] at g c1 c2
        have g' := g; unfold gb at g'
        refine Ev.step (f := fun k => impl_ValidInode.j2 k (a || v != 0) (i : Int) v l 8 (i : Int) m k0 s l d) (fun k => ?_) ?_
        · simp only [impl_ValidInode.l0]
          rw [if_pos (by omega), if_pos (by omega), if_pos (by omega), hv, impl_in_, Option.bind_some, if_pos (by simp; omega)]
          cases a with
          | true => rw [if_pos rfl, Bool.true_or]
          | false => rw [if_neg (by decide), Bool.false_or]
        · refine Ev.step (f := fun k => impl_ValidInode.j3 k (a || v != 0) (i : Int) v l 8 (i : Int) false m k0 s l d) (fun k => ?_) ?_
          · simp only [impl_ValidInode.j2]
            by_cases e : m = 0
            · rw [if_pos e]
            · rw [if_neg e, hw2]
              by_cases e2 : (i : Int) * 64 ≥ s
              · rw [if_pos e2, show (v != 0) = false by simpa using c1 e e2]
              · rw [if_neg e2]
          · refine Ev.step (fun k => ?_) h
            simp only [impl_ValidInode.j3]
            rw [if_neg (by decide), hw2, hw]
            by_cases e : m = 2
            · rw [if_pos e]
              by_cases e2 : (i : Int) * 64 < s
              · rw [if_pos e2, if_neg (c2 (Or.inl e) e2)]
              · rw [if_neg e2]
            · rw [if_neg e]
              by_cases e' : m = 3
              · rw [if_pos e']
                by_cases e2 : (i : Int) * 64 < s
                · rw [if_pos e2, if_neg (c2 (Or.inr e') e2)]
                · rw [if_neg e2]
              · rw [if_neg e']
      obtain ⟨h1, h2⟩ := ih (a || v != 0)
      refine ⟨fun ⟨j, x, y, h⟩ => st _ (h1 ⟨j, ?_, y, h⟩), fun h h' => st _ (h2 (fun j x y => h j (by omega) y) (fun b hb => h' b ?_))⟩
      · rcases Nat.eq_or_lt_of_le x with rfl | x
        · exact absurd c h
        · exact x
      · rw [hb]
        constructor
        · rintro ⟨x, y⟩
          have x' : a = false ∧ v = 0 := by simpa using x
          refine ⟨x'.1, fun j h1 h2 => ?_⟩
          rcases Nat.eq_or_lt_of_le h1 with rfl | h1
          · rw [hv]; exact x'.2
          · exact y j h1 h2
        · rintro ⟨x, y⟩
          have := y i (Nat.le_refl _) hi
          rw [hv] at this
          exact ⟨by simp [x, this], fun j h1 h2 => y j (by omega) h2⟩
    · refine ⟨fun _ => ?_, fun h => absurd (h i (Nat.le_refl _) hi) c⟩
      unfold cI at c
      rw [hv] at c
      by_cases g : gb v
      · have g' := g; unfold gb at g'
        refine Ev.step (f := fun k => impl_ValidInode.j2 k (a || v != 0) (i : Int) v l 8 (i : Int) m k0 s l d) (fun k => ?_) ?_
        · simp only [impl_ValidInode.l0]
          rw [if_pos (by omega), if_pos (by omega), if_pos (by omega), hv, impl_in_, Option.bind_some, if_pos (by simp; omega)]
          cases a with
          | true => rw [if_pos rfl, Bool.true_or]
          | false => rw [if_neg (by decide), Bool.false_or]
        · by_cases p : m ≠ 0 ∧ (i : Int) * 64 ≥ s ∧ v ≠ 0
          · refine Ev.step (f := fun k => impl_ValidInode.j3 k (a || v != 0) (i : Int) v l 8 (i : Int) true m k0 s l d) (fun k => ?_) ?_
            · simp only [impl_ValidInode.j2]
              rw [if_neg p.1, hw2, if_pos p.2.1, show (v != 0) = true by simpa using p.2.2]
            · exact Ev.step (f := fun _ => some false) (fun k => by simp only [impl_ValidInode.j3]; rw [if_pos trivial]) (Ev.now _)
          · have c1 : m ≠ 0 → (i : Int) * 64 ≥ s → v = 0 := fun h1 h2 => by
              by_cases h : v = 0
              · exact h
              · exact absurd ⟨h1, h2, h⟩ p
            have hm : (m = 2 ∨ m = 3) ∧ (i : Int) * 64 < s ∧ v = 0 := by
              by_cases h : (m = 2 ∨ m = 3) ∧ (i : Int) * 64 < s ∧ v = 0
              · exact h
              · exact absurd ⟨g, c1, fun h1 h2 h3 => h ⟨h1, h2, h3⟩⟩ c
            refine Ev.step (f := fun k => impl_ValidInode.j3 k (a || v != 0) (i : Int) v l 8 (i : Int) false m k0 s l d) (fun k => ?_) ?_
            · simp only [impl_ValidInode.j2]
              rw [if_neg (by omega), hw2, if_neg (by omega)]
            · refine Ev.step (f := fun _ => some false) (fun k => ?_) (Ev.now _)
              simp only [impl_ValidInode.j3]
              rw [if_neg (by decide), hw2]
              rcases hm with ⟨e | e, e2, e3⟩
              · rw [if_pos e, if_pos e2, if_pos e3]
              · rw [if_neg (by omega), if_pos e, if_pos e2, if_pos e3]
      · refine Ev.step (f := fun _ => some false) (fun k => ?_) (Ev.now _)
        simp only [impl_ValidInode.l0]
        rw [if_pos (by omega), if_pos (by omega), if_pos (by omega), hv, impl_in_, Option.bind_some, if_neg (by unfold gb at g; simp; omega)]
theorem impl_ev (m k0 s : Int) (l : List Int) (d : Int) : Ev (fun k => impl_ValidInode.f k m k0 s l d) (val m k0 s l d) := by
  have vt : fullI m k0 s l d → val m k0 s l d = true := fun h => val_t ((full_iff m k0 s l d).2 h)
  have vf : ¬ fullI m k0 s l d → val m k0 s l d = false := fun h => val_f (fun h2 => h ((full_iff m k0 s l d).1 h2))
  have jt : Ev (fun k => impl_ValidInode.j0 k true m k0 s l d) false := Ev.step (f := fun _ => some false) (fun k => by simp only [impl_ValidInode.j0]; rw [if_pos trivial]) (Ev.now _)
  by_cases hl : (l.length : Int) = 8
  rotate_left
  · rw [vf (fun h => hl (by have := h.1; omega))]
    exact Ev.congr (fun k => by unfold impl_ValidInode.f; rw [if_neg hl]) jt
  by_cases gd : gb d
  rotate_left
  · rw [vf (fun h => gd h.2.1)]
    exact Ev.congr (fun k => by unfold impl_ValidInode.f; rw [if_pos hl, impl_in_, Option.bind_some, decide_eq_false (by unfold gb at gd; omega)]; rfl) jt
  have gd' := gd; unfold gb at gd'
  refine Ev.congr (fun k => by unfold impl_ValidInode.f; rw [if_pos hl, impl_in_, Option.bind_some, decide_eq_true (by omega)]) ?_
  refine Ev.step (f := fun k => impl_ValidInode.l0 k (d != 0) l 8 0 m k0 s l d) (fun k => by simp only [impl_ValidInode.j0]; rw [if_neg (by decide), hl]) ?_
  have L := impl_l0 m k0 s l d (by omega) (val m k0 s l d) (d != 0)
  by_cases hc : ∀ j, j < 8 → cI m s l j
  rotate_left
  · have v0 := vf (fun h => hc h.2.2.1)
    rw [v0]
    refine L.1 ?_
    by_cases h : ∃ j, j < 8 ∧ ¬ cI m s l j
    · exact h
    · exact absurd (fun j hj => by
        by_cases g : cI m s l j
        · exact g
        · exact absurd ⟨j, hj, g⟩ h) hc
  refine L.2 hc (fun b hb => ?_)
  have base : l.length = 8 ∧ gb d ∧ (∀ j, j < 8 → cI m s l j) := ⟨by omega, gd, hc⟩
  have no : ¬ (m = 0) → ¬ (m = 1 ∨ (m = 2 ∧ k0 = 1 ∧ s % 16 = 0) ∨ (m = 3 ∧ 1 ≤ s ∧ s ≤ 240)) → val m k0 s l d = false := fun n0 n1 => vf (fun h => by
    rcases h.2.2.2 with ⟨a, _⟩ | ⟨b, _⟩
    · exact n0 a
    · exact n1 b)
  have fin : ∀ (hm : m = 1 ∨ (m = 2 ∧ k0 = 1 ∧ s % 16 = 0) ∨ (m = 3 ∧ 1 ≤ s ∧ s ≤ 240)) (x6 : Int), x6 = (if m = 1 then 0 else 1) → Ev (fun k => impl_ValidInode.j4 k x6 m k0 s l d) (val m k0 s l d) := fun hm x6 hx => by
    have n0 : ¬ m = 0 := by omega
    by_cases a1 : x6 ≤ k0 ∧ k0 ≤ 8
    rotate_left
    · rw [vf (fun h => by
        rcases h.2.2.2 with ⟨a, _⟩ | ⟨_, b, c, _⟩
        · exact n0 a
        · exact a1 (by rw [hx]; exact ⟨b, c⟩))]
      exact Ev.step (f := fun _ => some false) (fun k => by simp only [impl_ValidInode.j4]; rw [impl_in_, Option.bind_some, if_neg (by simpa using a1)]) (Ev.now _)
    by_cases a2 : 0 ≤ s ∧ s ≤ 2560
    rotate_left
    · rw [vf (fun h => by
        rcases h.2.2.2 with ⟨a, _⟩ | ⟨_, _, _, b, c, _⟩
        · exact n0 a
        · exact a2 ⟨b, c⟩)]
      exact Ev.step (f := fun _ => some false) (fun k => by simp only [impl_ValidInode.j4]; rw [impl_in_, Option.bind_some, if_pos (by simpa using a1), impl_in_, Option.bind_some, if_neg (by simpa using a2)]) (Ev.now _)
    have st : ∀ q, (if s ≤ 512 then (if d = 0 then (if m = 1 then some true else some true) else some false) else (if m = 1 then some true else some (d != 0))) = some q → Ev (fun k => impl_ValidInode.j4 k x6 m k0 s l d) q := fun q h =>
      Ev.step (f := fun _ => some q) (fun k => by simp only [impl_ValidInode.j4]; rw [impl_in_, Option.bind_some, if_pos (by simpa using a1), impl_in_, Option.bind_some, if_pos (by simpa using a2)]; exact h) (Ev.now _)
    refine st _ ?_
    by_cases a3 : s ≤ 512
    · rw [if_pos a3]
      by_cases a4 : d = 0
      · rw [if_pos a4, vt ⟨base.1, gd, hc, Or.inr ⟨hm, by rw [← hx]; exact a1.1, a1.2, a2.1, a2.2, fun _ => a4, fun h => by omega⟩⟩]
        split <;> rfl
      · rw [if_neg a4, vf (fun h => by
          rcases h.2.2.2 with ⟨a, _⟩ | ⟨_, _, _, _, _, b, _⟩
          · exact n0 a
          · exact a4 (b a3))]
    · rw [if_neg a3]
      by_cases a5 : m = 1
      · rw [if_pos a5, vt ⟨base.1, gd, hc, Or.inr ⟨hm, by rw [← hx]; exact a1.1, a1.2, a2.1, a2.2, fun h => absurd h a3, fun _ h => absurd a5 h⟩⟩]
      · rw [if_neg a5]
        by_cases a4 : d = 0
        · rw [vf (fun h => by
            rcases h.2.2.2 with ⟨a, _⟩ | ⟨_, _, _, _, _, _, b⟩
            · exact n0 a
            · exact b (by omega) a5 a4), show (d != 0) = false by simpa using a4]
        · rw [vt ⟨base.1, gd, hc, Or.inr ⟨hm, by rw [← hx]; exact a1.1, a1.2, a2.1, a2.2, fun h => absurd h a3, fun _ _ => a4⟩⟩, show (d != 0) = true by simpa using a4]
  have tm : (Int.tmod s 16 = 0) ↔ s % 16 = 0 := by
    rw [Int.tmod_eq_emod]
    split <;> omega
  by_cases m0 : m = 0
  · by_cases k1 : k0 = 0
    · by_cases s1 : s = 0
      · refine Ev.step (f := fun _ => some (!b)) (fun k => by simp only [impl_ValidInode.l0]; rw [if_neg (by omega), if_pos m0, if_pos k1, if_pos s1]) ?_
        cases b with
        | false =>
          obtain ⟨h1, h2⟩ := hb.1 rfl
          rw [vt ⟨base.1, gd, hc, Or.inl ⟨m0, k1, s1, by simpa using h1, h2⟩⟩]
          exact Ev.now true
        | true =>
          rw [vf (fun h => by
            rcases h.2.2.2 with ⟨_, _, _, a, c⟩ | ⟨b, _⟩
            · have := hb.2 ⟨by simpa using a, c⟩
              cases this
            · omega)]
          exact Ev.now false
      · rw [vf (fun h => by
          rcases h.2.2.2 with ⟨_, _, a, _⟩ | ⟨b, _⟩
          · exact s1 a
          · omega)]
        exact Ev.step (f := fun _ => some false) (fun k => by simp only [impl_ValidInode.l0]; rw [if_neg (by omega), if_pos m0, if_pos k1, if_neg s1]) (Ev.now _)
    · rw [vf (fun h => by
        rcases h.2.2.2 with ⟨_, a, _⟩ | ⟨b, _⟩
        · exact k1 a
        · omega)]
      exact Ev.step (f := fun _ => some false) (fun k => by simp only [impl_ValidInode.l0]; rw [if_neg (by omega), if_pos m0, if_neg k1]) (Ev.now _)
  by_cases m1 : m = 1
  · exact Ev.step (fun k => by simp only [impl_ValidInode.l0]; rw [if_neg (by omega), if_neg m0, if_pos m1]) (fin (Or.inl m1) 0 (by rw [if_pos m1]))
  by_cases m2 : m = 2
  · by_cases k1 : k0 = 1
    · by_cases t : s % 16 = 0
      · exact Ev.step (fun k => by simp only [impl_ValidInode.l0]; rw [if_neg (by omega), if_neg m0, if_neg m1, if_pos m2, if_pos k1, if_pos (tm.2 t)]) (fin (Or.inr (Or.inl ⟨m2, k1, t⟩)) 1 (by rw [if_neg m1]))
      · rw [no m0 (by omega)]
        exact Ev.step (f := fun _ => some false) (fun k => by simp only [impl_ValidInode.l0]; rw [if_neg (by omega), if_neg m0, if_neg m1, if_pos m2, if_pos k1, if_neg (fun h => t (tm.1 h))]) (Ev.now _)
    · rw [no m0 (by omega)]
      exact Ev.step (f := fun _ => some false) (fun k => by simp only [impl_ValidInode.l0]; rw [if_neg (by omega), if_neg m0, if_neg m1, if_pos m2, if_neg k1]) (Ev.now _)
  by_cases m3 : m = 3
  · by_cases s1 : 1 ≤ s ∧ s ≤ 240
    · exact Ev.step (fun k => by simp only [impl_ValidInode.l0]; rw [if_neg (by omega), if_neg m0, if_neg m1, if_neg m2, if_pos m3, impl_in_, Option.bind_some, if_pos (by simpa using s1)]) (fin (Or.inr (Or.inr ⟨m3, s1⟩)) 1 (by rw [if_neg m1]))
    · rw [no m0 (by omega)]
      exact Ev.step (f := fun _ => some false) (fun k => by simp only [impl_ValidInode.l0]; rw [if_neg (by omega), if_neg m0, if_neg m1, if_neg m2, if_pos m3, impl_in_, Option.bind_some, if_neg (by simpa using s1)]) (Ev.now _)
  · rw [no m0 (by omega)]
    exact Ev.step (f := fun _ => some false) (fun k => by simp only [impl_ValidInode.l0]; rw [if_neg (by omega), if_neg m0, if_neg m1, if_neg m2, if_neg m3]) (Ev.now _)
theorem toIn (m k0 s : Int) (l : List Int) (d : Int) (hl : l.length ≤ 1048576) : Ev (fun k => laws_toInode.f k m k0 s l d) (m, k0, s, l, d) := by
  refine Ev.congr (fun k => by unfold laws_toInode.f; rfl) ?_
  refine (toS_ev (F := laws_toInt64S.f) (fun _ _ => rfl) (fun _ _ _ _ => rfl) l (by omega) (by omega)).bind ?_
  exact Ev.now _
theorem eqIn (m k0 s : Int) (l : List Int) (d : Int) (hl : l.length ≤ 1048576) : Ev (fun k => laws_eqInode.f k m k0 s l d m k0 s l d) true := by
  refine Ev.congr (fun k => by unfold laws_eqInode.f; rw [if_pos rfl, if_pos rfl, if_pos rfl]) ?_
  refine (eqS_ev (F := laws_eqInt64S.f) (fun _ _ _ => rfl) (fun _ _ _ _ => rfl) l (by omega)).bind ?_
  exact Ev.congr (fun k => by rw [if_pos rfl, if_pos rfl]) (Ev.now true)
end VI
theorem FnExactValidInode (m k0 s : Int) (l : List Int) (d : Int) (_ : (Lit.int .i64 m).wf = true) (_ : (Lit.int .i64 k0).wf = true) (_ : (Lit.int .i64 s).wf = true) (gl : l.length ≤ maxLen ∧ ∀ y ∈ l, (Lit.int .i64 y).wf = true) (_ : (Lit.int .i64 d).wf = true) : ∃ k, laws_FnExactValidInode.f k m k0 s l d = some true := by
  have hm : maxLen ≤ 9223372036854775807 := by decide
  have gl1 := gl.1
  by_cases c : (wrap64 (1048576 - (l.length : Int))) < 0
  · refine ⟨0, ?_⟩
    unfold laws_FnExactValidInode.f laws_szInode.f laws_szInt64S.f
    rw [if_pos c, Option.bind_some, if_pos (by decide), Option.bind_some, if_pos (by decide)]
  have hl : l.length ≤ 1048576 := by rw [w64 (by omega) (by omega)] at c; omega
  refine Ev.rounds (Ev.congr (fun k => by unfold laws_FnExactValidInode.f laws_szInode.f laws_szInt64S.f; rw [if_neg c, Option.bind_some, if_neg c, Option.bind_some, if_neg c]) ?_)
  have t := VI.toIn m k0 s l d hl
  refine t.bind ?_
  refine (VI.spec_ev m k0 s l d).bind ?_
  refine t.bind ?_
  refine (VI.impl_ev m k0 s l d).bind ?_
  refine Ev.congr (fun k => if_neg (by simp)) ?_
  refine t.bind ?_
  refine (VI.eqIn m k0 s l d hl).bind ?_
  exact Ev.congr (fun k => if_pos rfl) (Ev.now true)
end Go.Proofs.Ytplefdkookhlhaa.Pure
