import Derived.Test.YtkehfdadplpaeaaVSUHlp
/- Loops over lists of anything: sizes, comparing. -/
namespace Go.Proofs.Ytkehfdadplpaeaa.Hlp
open Go.RowKit Go.Proofs.YtkehfdadplpaeaaW.PrintWords Go.Proofs.YtkehfdadplpaeaaW.PrintMore

/-- A loop that takes each element's weight off a budget, or gives up. -/
theorem szG_ev {β : Type} (w : β → Nat) {L : Nat → List β → Int → Int → Option Int} (l : List β)
    (step : ∀ (i : Nat) (s : Int) (h : i < l.length), 0 ≤ s → s ≤ 281474976710656 → (∃ j, j < 0 ∧ Ev (fun k => L k l s (i : Int)) j) ∨ ((w l[i] : Int) ≤ s ∧ ∀ r, Ev (fun k => L k l (s - w l[i]) ((i + 1 : Nat) : Int)) r → Ev (fun k => L k l s (i : Int)) r))
    (fin : ∀ s, Ev (fun k => L k l s (l.length : Int)) s) (s : Int) (h0 : 0 ≤ s) (hs : s ≤ 281474976710656) :
    ∃ r, Ev (fun k => L k l s 0) r ∧ (r < 0 ∨ (0 ≤ r ∧ r = s - ((l.map w).sum : Nat))) := by
  have key : ∀ s, 0 ≤ s → s ≤ 281474976710656 → ∃ r, Ev (fun k => L k l s ((0 : Nat) : Int)) r ∧ (r < 0 ∨ (0 ≤ r ∧ r = s - (((l.drop 0).map w).sum : Nat))) := by
    refine down (P := fun i => ∀ s, 0 ≤ s → s ≤ 281474976710656 → ∃ r, Ev (fun k => L k l s (i : Int)) r ∧ (r < 0 ∨ (0 ≤ r ∧ r = s - (((l.drop i).map w).sum : Nat)))) l.length ?_ ?_
    · intro s h0 hs
      exact ⟨s, fin s, Or.inr ⟨h0, by simp⟩⟩
    · intro i hi ih s h0 hs
      rcases step i s hi h0 hs with ⟨j, hj, he⟩ | ⟨hw, hst⟩
      · exact ⟨j, he, Or.inl hj⟩
      · obtain ⟨r, he, hr⟩ := ih (s - w l[i]) (by omega) (by omega)
        refine ⟨r, hst r he, ?_⟩
        rw [List.drop_eq_getElem_cons hi, List.map_cons, List.sum_cons]
        rcases hr with h | ⟨h1, h2⟩
        · exact Or.inl h
        · exact Or.inr ⟨h1, by omega⟩
  simpa using key s h0 hs
/-- A loop that compares a list with itself. -/
theorem eqG_ev {β : Type} {L : Nat → List β → List β → Int → Option Bool} (l : List β)
    (step : ∀ (i : Nat) (_ : i < l.length), Ev (fun k => L k l l ((i + 1 : Nat) : Int)) true → Ev (fun k => L k l l (i : Int)) true)
    (fin : Ev (fun k => L k l l (l.length : Int)) true) : Ev (fun k => L k l l 0) true :=
  down (P := fun i => Ev (fun k => L k l l (i : Int)) true) l.length fin step
end Go.Proofs.Ytkehfdadplpaeaa.Hlp
