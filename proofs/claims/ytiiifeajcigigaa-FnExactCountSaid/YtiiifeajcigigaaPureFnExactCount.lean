/- FnExactCount: at every list of nodes the program's Count returns what the reference's returns, and the nodes stay as they were (the plain law; the row stands beside it). -/
import Derived.Test.YtiiifeajcigigaaPFnExactCountx
import Derived.Test.YtiiifeajcigigaaHlp2
namespace Go.Proofs.Ytiiifeajcigigaa.Pure
open Go.RowKit Go.Proofs.Ytiiifeajcigigaa.PFnExactCount Go.Proofs.YtiiifeajcigigaaW.PrintWords Go.Proofs.YtiiifeajcigigaaW.PrintLast Go.Proofs.YtiiifeajcigigaaW.PrintMore Go.Proofs.Ytiiifeajcigigaa.Hlp
set_option linter.unusedVariables false
namespace CN
theorem rd90 (l : List S90) (i : Nat) (h : i < l.length) : rd_T90 l (i : Int) = l[i] := by simp [rd_T90, h]
theorem rd93 (l : List S93) (i : Nat) (h : i < l.length) : rd_T93 l (i : Int) = l[i] := by simp [rd_T93, h]
def toN (e : S90) : S93 := ⟨e.f0, e.f1, e.f2, e.f3, e.f4, e.f5, e.f6⟩
theorem szN (l : List S90) (hl : l.length ≤ maxLen) (hg : ∀ y ∈ l, y.f0.size ≤ maxLen ∧ y.f6.size ≤ maxLen) :
    ∃ r, Ev (fun k => laws_szNodeS.f k l 1048576) r ∧ (r < 0 ∨ l.length ≤ 1048576) := by
  have hm : maxLen ≤ 9223372036854775807 := by decide
  by_cases c : (wrap64 (1048576 - (l.length : Int))) < 0
  · exact ⟨-1, Ev.congr (fun k => by unfold laws_szNodeS.f; rw [if_pos c]) (Ev.now _), Or.inl (by decide)⟩
  · rw [w64 (by omega) (by omega)] at c
    have hl6 : l.length ≤ 1048576 := by omega
    obtain ⟨r, h, hr⟩ := szG_ev (fun e : S90 => e.f0.size + e.f6.size) (L := laws_szNodeS.l0) l (by
      intro i s hi h0 hs
      have hy := hg l[i] (List.getElem_mem _)
      have hw : wrap64 ((i : Int) + 1) = ((i + 1 : Nat) : Int) := by rw [w64 (by omega) (by omega)]; rfl
      have w1 : wrap64 (s - (l[i].f0.size : Int)) = s - l[i].f0.size := w64 (by omega) (by omega)
      by_cases d1 : (l[i].f0.size : Int) ≤ s
      · have w2 : wrap64 (s - (l[i].f0.size : Int) - (l[i].f6.size : Int)) = s - l[i].f0.size - l[i].f6.size := w64 (by omega) (by omega)
        by_cases d2 : ((l[i].f0.size + l[i].f6.size : Nat) : Int) ≤ s
        · refine Or.inr ⟨d2, fun r h => Ev.step (fun k => ?_) h⟩
          simp only [laws_szNodeS.l0, laws_szNode.f]
          rw [if_pos (by omega), if_pos (by omega), rd90 l i hi, w1, if_neg (by omega), w2, if_neg (by omega), Option.bind_some, if_neg (by omega), hw]
          congr 1; omega
        · refine Or.inl ⟨-1, by decide, Ev.step (f := fun _ => some (-1)) (fun k => ?_) (Ev.now _)⟩
          simp only [laws_szNodeS.l0, laws_szNode.f]
          rw [if_pos (by omega), if_pos (by omega), rd90 l i hi, w1, if_neg (by omega), w2, if_pos (by omega), Option.bind_some, if_pos (by omega)]
      · refine Or.inl ⟨-1, by decide, Ev.step (f := fun _ => some (-1)) (fun k => ?_) (Ev.now _)⟩
        simp only [laws_szNodeS.l0, laws_szNode.f]
        rw [if_pos (by omega), if_pos (by omega), rd90 l i hi, w1, if_pos (by omega), Option.bind_some, if_pos (by omega)])
      (fun s => Ev.step (f := fun _ => some s) (fun k => by simp only [laws_szNodeS.l0]; rw [if_neg (by omega)]) (Ev.now _)) (1048576 - (l.length : Int)) (by omega) (by omega)
    exact ⟨r, Ev.congr (fun k => by unfold laws_szNodeS.f; rw [w64 (by omega) (by omega), if_neg (by omega)]) h, Or.inr hl6⟩
theorem toNS (l : List S90) (hl : l.length ≤ 1048576) : Ev (fun k => laws_toNodeS.f k l) (l.map toN) := by
  refine Ev.congr (f := fun k => laws_toNodeS.l0 k l (List.replicate l.length z93) 0) (fun k => by unfold laws_toNodeS.f; rw [if_pos (by omega), if_pos (by simp; omega)]; simp) ?_
  refine fill_ev (L := fun k x i => laws_toNodeS.l0 k l x i) l toN ?_ ?_ _ (by simp)
  · intro i x hi hx r h
    refine Ev.step (fun k => ?_) h
    simp only [laws_toNodeS.l0, laws_toNode.f]
    rw [if_pos (by omega), if_pos (by omega), Option.bind_some, if_pos (by omega), w64 (by omega) (by omega), rd90 l i hi]
    rfl
  · intro x hx
    exact Ev.step (f := fun _ => some x) (fun k => by simp only [laws_toNodeS.l0]; rw [if_neg (by omega)]) (Ev.now _)
theorem eqNS (l : List S93) (hl : l.length ≤ 281474976710656) : Ev (fun k => laws_eqNodeS.f k l l) true := by
  refine Ev.congr (f := fun k => laws_eqNodeS.l0 k l l 0) (fun k => by unfold laws_eqNodeS.f; rw [if_pos rfl]) ?_
  refine eqG_ev (L := laws_eqNodeS.l0) l ?_ ?_
  · intro i hi h
    refine Ev.step (fun k => ?_) h
    simp only [laws_eqNodeS.l0, laws_eqNode.f]
    rw [if_pos (by omega), if_pos (by omega), if_pos (by omega), w64 (by omega) (by omega)]
    simp
  · exact Ev.step (f := fun _ => some true) (fun k => by simp only [laws_eqNodeS.l0]; rw [if_neg (by omega)]) (Ev.now _)
theorem has_ev (x : List Int) (v : Int) (hl : x.length ≤ 1048576) : Ev (fun k => spec_l4Has.f k x v) (decide (v ∈ x)) := by
  unfold spec_l4Has.f
  have key := down (P := fun i => Ev (fun k => spec_l4Has.l0 k x v (i : Int)) (decide (v ∈ x.drop i))) x.length ?_ ?_
  · simpa using key
  · rw [List.drop_length]
    exact Ev.step (f := fun _ => some false) (fun k => by simp only [spec_l4Has.l0]; rw [if_neg (by omega)]) (by simpa using Ev.now false)
  · intro i hi h
    have hw : wrap64 ((i : Int) + 1) = ((i + 1 : Nat) : Int) := by rw [w64 (by omega) (by omega)]; rfl
    rw [List.drop_eq_getElem_cons hi]
    by_cases c : x[i] = v
    · refine Ev.step (f := fun _ => some true) (fun k => ?_) (by simp [c]; exact Ev.now true)
      simp only [spec_l4Has.l0]
      rw [if_pos (by omega), if_pos (by omega), rd_nat x i hi, if_pos c]
    · have e : decide (v ∈ x[i] :: x.drop (i + 1)) = decide (v ∈ x.drop (i + 1)) := decide_eq_decide.2 (by simp only [List.mem_cons]; exact ⟨fun h => h.resolve_left (fun h => c h.symm), fun h => Or.inr h⟩)
      rw [e]
      refine Ev.step (fun k => ?_) h
      simp only [spec_l4Has.l0]
      rw [if_pos (by omega), if_pos (by omega), rd_nat x i hi, if_neg c, hw]
theorem impl_some : ∀ (l : List S93) (_ : ∀ y ∈ l, (Lit.int .i64 y.f2).wf = true) (seen : List Int) (n b : Int), ∃ r, impl_Count.l0 l seen n b = some r := by
  intro l
  induction l with
  | nil => intro _ seen n b; exact ⟨_, rfl⟩
  | cons x l ih =>
    intro h seen n b
    have hx := h x (by simp)
    have hr := ih (fun y hy => h y (by simp [hy]))
    simp only [impl_Count.l0]
    rw [if_pos hx]
    split
    · exact hr _ _ _
    · split <;> exact hr _ _ _
theorem same (l : List S93) (hl : l.length ≤ 10000) (hw : ∀ y ∈ l, (Lit.int .i64 y.f2).wf = true) : ∀ (d i : Nat), i + d = l.length → ∀ (x4 seen : List Int) (n b : Int), x4.length ≤ i → (∀ v, v ∈ x4 ↔ v ∈ seen) → ∀ r, impl_Count.l0 (l.drop i) seen n b = some r → Ev (fun k => spec_Count.l0 k l x4 (i : Int) n b) r := by
  intro d
  induction d with
  | zero =>
    intro i hi x4 seen n b _ _ r hr
    rw [List.drop_eq_nil_of_le (by omega)] at hr
    simp only [impl_Count.l0] at hr
    exact Ev.step (f := fun _ => some r) (fun k => by simp only [spec_Count.l0]; rw [if_neg (by omega)]; exact hr) (Ev.now _)
  | succ d ih =>
    intro i hi x4 seen n b hx hv r hr
    have hil : i < l.length := by omega
    have hwi : wrap64 ((i : Int) + 1) = ((i + 1 : Nat) : Int) := by rw [w64 (by omega) (by omega)]; rfl
    rw [List.drop_eq_getElem_cons hil] at hr
    simp only [impl_Count.l0] at hr
    rw [if_pos (hw _ (List.getElem_mem _))] at hr
    have hh := has_ev x4 l[i].f2 (by omega)
    by_cases c : l[i].f2 ∈ seen
    · rw [if_pos c] at hr
      rw [decide_eq_true ((hv _).2 c)] at hh
      refine Ev.step (fun k => by simp only [spec_Count.l0]; rw [if_pos (by omega), if_pos (by omega), rd93 l i hil, hwi]) ?_
      refine hh.bind ?_
      exact Ev.congr (fun k => if_pos rfl) (ih (i + 1) (by omega) x4 seen n b (by omega) hv r hr)
    · rw [if_neg c] at hr
      rw [decide_eq_false (fun h => c ((hv _).1 h))] at hh
      have hx5 : (x4 ++ [l[i].f2]).length ≤ i + 1 := by simp; omega
      have hv5 : ∀ v, v ∈ x4 ++ [l[i].f2] ↔ v ∈ l[i].f2 :: seen := fun v => by
        simp only [List.mem_append, List.mem_cons, List.not_mem_nil, or_false, hv v]; exact Or.comm
      refine Ev.step (fun k => by simp only [spec_Count.l0]; rw [if_pos (by omega), if_pos (by omega), rd93 l i hil, hwi]) ?_
      refine hh.bind ?_
      refine Ev.congr (fun k => by rw [if_neg (by simp), if_pos (by omega), Option.bind_some]) ?_
      by_cases d1 : 0 ≤ l[i].f5
      · by_cases d2 : l[i].f5 ≤ 2048
        · rw [if_pos ⟨d1, d2⟩] at hr
          exact Ev.congr (fun k => by rw [if_pos d1, if_pos d2]) (ih (i + 1) (by omega) _ _ _ _ hx5 hv5 r hr)
        · rw [if_neg (fun h => d2 h.2)] at hr
          exact Ev.congr (fun k => by rw [if_pos d1, if_neg d2]) (ih (i + 1) (by omega) _ _ _ _ hx5 hv5 r hr)
      · rw [if_neg (fun h => d1 h.1)] at hr
        exact Ev.congr (fun k => by rw [if_neg d1]) (ih (i + 1) (by omega) _ _ _ _ hx5 hv5 r hr)
end CN
theorem FnExactCount (l : List S90) (g : l.length ≤ maxLen ∧ ∀ y ∈ l, (y.f0.size ≤ maxLen) ∧ ((Lit.int .i64 y.f1).wf = true) ∧ ((Lit.int .i64 y.f2).wf = true) ∧ ((Lit.int .i64 y.f3).wf = true) ∧ ((Lit.int .i64 y.f4).wf = true) ∧ ((Lit.int .i64 y.f5).wf = true) ∧ (y.f6.size ≤ maxLen)) : ∃ k, laws_FnExactCount.f k l = some true := by
  obtain ⟨z, hz, hz2⟩ := CN.szN l g.1 (fun y hy => ⟨(g.2 y hy).1, (g.2 y hy).2.2.2.2.2.2⟩)
  refine Ev.rounds (Ev.congr (fun k => by unfold laws_FnExactCount.f; rfl) ?_)
  refine hz.bind ?_
  by_cases c : z < 0
  · exact Ev.congr (fun k => if_pos c) (Ev.now true)
  refine Ev.congr (fun k => if_neg c) ?_
  have hl : l.length ≤ 1048576 := hz2.resolve_left c
  have t := CN.toNS l hl
  have hl2 : (l.map CN.toN).length ≤ 1048576 := by simpa using hl
  have hw : ∀ y ∈ l.map CN.toN, (Lit.int .i64 y.f2).wf = true := by
    intro y hy
    obtain ⟨x, hx, rfl⟩ := List.mem_map.1 hy
    exact (g.2 x hx).2.2.1
  have e := CN.eqNS (l.map CN.toN) (by omega)
  generalize l.map CN.toN = m at t hl2 hw e
  obtain ⟨r, s, i⟩ : ∃ r : Int × Int, Ev (fun k => spec_Count.f k m) r ∧ impl_Count.f m = some r := by
    unfold spec_Count.f impl_Count.f
    by_cases d : (m.length : Int) > 10000
    · exact ⟨(0, 0), Ev.congr (fun k => if_pos d) (Ev.now _), if_pos d⟩
    · obtain ⟨r, hr⟩ := CN.impl_some m hw [] 0 0
      refine ⟨r, Ev.congr (fun k => if_neg d) ?_, by rw [if_neg d]; exact hr⟩
      exact CN.same m (by omega) hw m.length 0 (by omega) [] [] 0 0 (by simp) (fun v => Iff.rfl) r (by simpa using hr)
  have eu : laws_eqUsage.f r.1 r.2 r.1 r.2 = some true := by unfold laws_eqUsage.f; rw [if_pos rfl, if_pos rfl]
  refine t.bind ?_
  refine s.bind ?_
  refine t.bind ?_
  refine Ev.congr (fun k => by rw [i, Option.bind_some, eu, Option.bind_some, if_pos rfl]) ?_
  refine t.bind ?_
  refine e.bind ?_
  exact Ev.congr (fun k => if_pos rfl) (Ev.now true)
end Go.Proofs.Ytiiifeajcigigaa.Pure
