import Derived.Test.YtkehfdadplpaeaaDoorVPLWWords
import Derived.Deep.Slices
import Derived.ChangeArms
/- What can be read as data of a type can be read by the print's kind of that type: ints, bools, strings, slices, structs. -/
namespace Go.Proofs.YtkehfdadplpaeaaDoor.Opn
open Go.RowKit Go.Proofs.YtkehfdadplpaeaaDoorW.PrintWords Go.Deep Go.ChangeShapes Go.WideShapes

structure Opens {α : Type} (P : Program) (t : TypeId) (d : Kd α) (good : α → Prop) : Prop where
  sz : P.cellsOf t = d.sz
  read : ∀ {H : Type} {enc : TypeId × Value → H} {W : World} {fuel : Nat} {cs : List Value} {x : DataW H × List MemPlace}, DataW.trod enc P W 0 (fun _ => true) true fuel t cs = some x → ∃ y, d.K W y cs ∧ good y

theorem int_ {P : Program} {t : TypeId} {k : IntKind} (ht : P.underlying t = some (.int k)) (hc : P.cellsOf t = 1) : Opens P t (Kd.int k) (fun x => (Lit.int k x).wf = true) :=
  ⟨hc, fun h => by obtain ⟨n, rfl, _, hw⟩ := DataW.trod_int ht h; exact ⟨n, rfl, hw⟩⟩
theorem cells_len {w : World} {base : Nat} {a : Addr} {n : Nat} {cs : List Value} (h : w.cells? base a n = some cs) : cs.length = n ∧ ∀ i u, cs[i]? = some u → w.cell? (a.add i) = some u := by
  unfold World.cells? at h
  split at h
  · have hl := mapM_some_length h
    rw [List.length_range] at hl
    refine ⟨hl, fun i u hu => ?_⟩
    have hi : i < cs.length := by
      rcases Nat.lt_or_ge i cs.length with h1 | h1
      · exact h1
      · rw [List.getElem?_eq_none h1] at hu; cases hu
    have := mapM_some_get h i i (List.getElem?_range (by omega))
    rw [this]; exact hu
  · cases h

/-- A row: its address, its length, its list. -/
theorem row_ {α : Type} {P : Program} {t e : TypeId} {d : Kd α} {good : α → Prop} (ht : P.underlying t = some (.slice e)) (he : Opens P e d good) {H : Type} {enc : TypeId × Value → H} {W : World} {fuel : Nat} {cs : List Value} {x : DataW H × List MemPlace}
    (h : DataW.trod enc P W 0 (fun _ => true) true fuel t cs = some x) : ∃ (xs : List α), (Kd.slice e d).K W xs cs ∧ xs.length ≤ maxLen ∧ ∀ y ∈ xs, good y := by
  rcases open_slice ht h with ⟨rfl, _⟩ | ⟨a, len, cap, m, n, D, Pl, rfl, _, hl, hm, hmm, _, hx⟩
  · exact ⟨[], ⟨none, 0, rfl, Nat.le_refl _, rfl, by simp, fun h => absurd h (Nat.lt_irrefl 0)⟩, by simp, by simp⟩
  · have hmc : m = cap := by rw [hmm]; rfl
    have : ∀ i, i < len → ∃ y : α, good y ∧ ∃ cs', d.K W y cs' ∧ cs'.length = d.sz ∧ ∀ j u, cs'[j]? = some u → W.cell? (a.add (i * d.sz + j)) = some u := by
      intro i hi
      obtain ⟨cs', h1, h2⟩ := hx i (by omega)
      obtain ⟨y, hk, hg⟩ := he.read h2
      obtain ⟨h3, h4⟩ := cells_len h1
      refine ⟨y, hg, cs', hk, by rw [h3, he.sz], fun j u hu => ?_⟩
      have := h4 j u hu
      rwa [he.sz, Go.Deep.add_add] at this
    classical
    let f : (i : Nat) → i < len → α := fun i hi => Classical.choose (this i hi)
    have hf := fun i (hi : i < len) => Classical.choose_spec (this i hi)
    let xs : List α := List.ofFn (fun i : Fin len => f i.1 i.2)
    have hlen : xs.length = len := by simp [xs]
    refine ⟨xs, ⟨some a, cap, by rw [hlen], by omega, ?_⟩, by omega, fun y hy => ?_⟩
    · refine ⟨rfl, by unfold maxLen at hm; omega, fun _ => ⟨a, rfl, fun j p hj => ?_⟩⟩
      have hj' : j < len := by
        rcases Nat.lt_or_ge j xs.length with h1 | h1
        · omega
        · rw [List.getElem?_eq_none h1] at hj; cases hj
      have hp : p = f j hj' := by
        have : xs[j]? = some (f j hj') := by simp [xs, hj']
        rw [this] at hj; exact (Option.some.inj hj).symm
      subst hp
      obtain ⟨_, cs', hk, hl2, hc⟩ := hf j hj'
      exact ⟨cs', hl2, hk, hc⟩
    · obtain ⟨i, rfl⟩ := List.mem_ofFn.1 hy
      exact (hf i.1 i.2).1
end Go.Proofs.YtkehfdadplpaeaaDoor.Opn
