/- FnExactSurvivors: at every list of transactions the program's Survivors answers as the reference's; what it answers is its own. -/
import Derived.Test.YtkehfdadplpaeaaPFnExactSurvivorsx
import Derived.Test.YtkehfdadplpaeaaVSUHlp2
import Derived.Test.YtkehfdadplpaeaaVSUHlp3
namespace Go.Proofs.Ytkehfdadplpaeaa.Pure
open Go.RowKit Go.Proofs.Ytkehfdadplpaeaa.PFnExactSurvivors Go.Proofs.YtkehfdadplpaeaaW.PrintWords Go.Proofs.YtkehfdadplpaeaaW.PrintLast Go.Proofs.YtkehfdadplpaeaaW.PrintMore Go.Proofs.Ytkehfdadplpaeaa.Hlp
namespace SX
theorem rd78 (l : List S68) (i : Nat) (h : i < l.length) : rd_T68 l (i : Int) = l[i] := by simp [rd_T68, h]
theorem rd62 (l : List S61) (i : Nat) (h : i < l.length) : rd_T61 l (i : Int) = l[i] := by simp [rd_T61, h]
def toH (e : S68) : S61 := ⟨e.f0, e.f1⟩
def goodH (l : List S68) : Prop := l.length ≤ maxLen ∧ ∀ y ∈ l, (Lit.int .i64 y.f0).wf = true ∧ (y.f1.length ≤ maxLen ∧ ∀ z ∈ y.f1, (Lit.int .u8 z).wf = true)
def goodI (l : List Int) : Prop := l.length ≤ maxLen ∧ ∀ y ∈ l, (Lit.int .i64 y).wf = true
/-- Lengths within the budget. -/
def fitH (l : List S68) : Prop := l.length ≤ 1048576 ∧ ∀ y ∈ l, y.f1.length ≤ 1048576
theorem mem_sum (l : List S68) (y : S68) (h : y ∈ l) : y.f1.length ≤ (l.map (fun e => e.f1.length)).sum := by
  induction l with
  | nil => cases h
  | cons a r ih =>
    rw [List.map_cons, List.sum_cons]
    rcases List.mem_cons.1 h with rfl | h
    · omega
    · have := ih h; omega
theorem szHS (l : List S68) (b : Int) (h0 : 0 ≤ b) (hb : b ≤ 1048576) (hl : goodH l) : ∃ r, Ev (fun k => laws_szHomeS.f k l b) r ∧ (r < 0 ∨ (0 ≤ r ∧ r ≤ b ∧ fitH l ∧ l.length + r ≤ b)) := by
  have hm : maxLen ≤ 9223372036854775807 := by decide
  obtain ⟨hl, hg⟩ := hl
  by_cases c : (wrap64 (b - (l.length : Int))) < 0
  · exact ⟨-1, Ev.congr (fun k => by unfold laws_szHomeS.f; rw [if_pos c]) (Ev.now _), Or.inl (by decide)⟩
  · rw [w64 (by omega) (by omega)] at c
    have hl6 : l.length ≤ 1048576 := by omega
    obtain ⟨r, h, hr⟩ := szG_ev (fun e : S68 => e.f1.length) (L := laws_szHomeS.l0) l (by
      intro i s hi h0 hs
      have hy := (hg l[i] (List.getElem_mem _)).2.1
      have hw : wrap64 ((i : Int) + 1) = ((i + 1 : Nat) : Int) := by rw [w64 (by omega) (by omega)]; rfl
      by_cases d : (l[i].f1.length : Int) ≤ s
      · refine Or.inr ⟨d, fun r h => Ev.step (fun k => ?_) h⟩
        simp only [laws_szHomeS.l0, laws_szHome.f, laws_szByteS.f]
        rw [if_pos (by omega), if_pos (by omega), rd78 l i hi, w64 (x := s - _) (by omega) (by omega), if_neg (by omega), Option.bind_some, if_neg (by omega), Option.bind_some, if_neg (by omega), hw]
      · refine Or.inl ⟨-1, by decide, Ev.step (f := fun _ => some (-1)) (fun k => ?_) (Ev.now _)⟩
        simp only [laws_szHomeS.l0, laws_szHome.f, laws_szByteS.f]
        rw [if_pos (by omega), if_pos (by omega), rd78 l i hi, w64 (x := s - _) (by omega) (by omega), if_pos (by omega), Option.bind_some, if_pos (by omega), Option.bind_some, if_pos (by omega)])
      (fun s => Ev.step (f := fun _ => some s) (fun k => by simp only [laws_szHomeS.l0]; rw [if_neg (by omega)]) (Ev.now _)) (b - (l.length : Int)) (by omega) (by omega)
    refine ⟨r, Ev.congr (fun k => by unfold laws_szHomeS.f; rw [w64 (by omega) (by omega), if_neg (by omega)]) h, ?_⟩
    rcases hr with h | ⟨h1, h2⟩
    · exact Or.inl h
    · refine Or.inr ⟨h1, by omega, ⟨hl6, fun y hy => ?_⟩, by omega⟩
      have := mem_sum l y hy; omega
theorem toHome_ev (a : Int) (d : List Int) (hd : d.length ≤ 1048576) : Ev (fun k => laws_toHome.f k a d) (a, d) := by
  refine Ev.congr (fun k => by unfold laws_toHome.f; rfl) ?_
  refine (toS_ev (F := laws_toByteS.f) (fun _ _ => rfl) (fun _ _ _ _ => rfl) d (by omega) (by omega)).bind ?_
  exact Ev.now _
theorem toHS (l : List S68) (hf : fitH l) : Ev (fun k => laws_toHomeS.f k l) (l.map toH) := by
  obtain ⟨hl, hg⟩ := hf
  refine Ev.congr (f := fun k => laws_toHomeS.l0 k l (List.replicate l.length z61) 0) (fun k => by unfold laws_toHomeS.f; rw [if_pos (by omega), if_pos (by simp; omega)]; simp) ?_
  refine fill_ev (L := fun k x i => laws_toHomeS.l0 k l x i) l toH ?_ ?_ _ (by simp)
  · intro i x hi hx r h
    refine Ev.step (f := fun k => (laws_toHome.f k l[i].f0 l[i].f1).bind fun t => laws_toHomeS.l0 k l (x.set i (⟨t.1, t.2⟩ : S61)) ((i + 1 : Nat) : Int)) (fun k => ?_) ?_
    · simp only [laws_toHomeS.l0]
      rw [if_pos (by omega), if_pos (by omega), w64 (by omega) (by omega), rd78 l i hi, Int.toNat_natCast]
      congr 1
      funext t
      rw [if_pos (by omega)]; rfl
    · exact (toHome_ev _ _ (hg _ (List.getElem_mem _))).bind h
  · intro x hx
    exact Ev.step (f := fun _ => some x) (fun k => by simp only [laws_toHomeS.l0]; rw [if_neg (by omega)]) (Ev.now _)
theorem eqHome_ev (a : Int) (d : List Int) (hd : d.length ≤ 1048576) : Ev (fun k => laws_eqHome.f k a d a d) true := by
  refine Ev.congr (fun k => by unfold laws_eqHome.f; rw [if_pos rfl]) ?_
  refine (eqS_ev (F := laws_eqByteS.f) (fun _ _ _ => rfl) (fun _ _ _ _ => rfl) d (by omega)).bind ?_
  exact Ev.congr (fun k => if_pos rfl) (Ev.now true)
theorem eqHS (l : List S61) (hl : l.length ≤ 1048576) (hg : ∀ y ∈ l, y.f1.length ≤ 1048576) : Ev (fun k => laws_eqHomeS.f k l l) true := by
  refine Ev.congr (f := fun k => laws_eqHomeS.l0 k l l 0) (fun k => by unfold laws_eqHomeS.f; rw [if_pos rfl]) ?_
  refine eqG_ev (L := laws_eqHomeS.l0) l ?_ ?_
  · intro i hi h
    refine Ev.step (f := fun k => (laws_eqHome.f k l[i].f0 l[i].f1 l[i].f0 l[i].f1).bind fun t => if t = true then laws_eqHomeS.l0 k l l ((i + 1 : Nat) : Int) else some false) (fun k => ?_) ?_
    · simp only [laws_eqHomeS.l0]
      rw [if_pos (by omega), if_pos (by omega), if_pos (by omega), rd62 l i hi, w64 (by omega) (by omega)]
      rfl
    · refine (eqHome_ev _ _ (hg _ (List.getElem_mem _))).bind ?_
      exact Ev.congr (fun k => if_pos rfl) h
  · exact Ev.step (f := fun _ => some true) (fun k => by simp only [laws_eqHomeS.l0]; rw [if_neg (by omega)]) (Ev.now _)
theorem fit_map (l : List S68) (hf : fitH l) : (l.map toH).length ≤ 1048576 ∧ ∀ y ∈ l.map toH, y.f1.length ≤ 1048576 := by
  refine ⟨by simpa using hf.1, fun y hy => ?_⟩
  obtain ⟨z, hz, rfl⟩ := List.mem_map.1 hy
  exact hf.2 z hz
/-- A whole transaction. -/
theorem szT (a : Int) (l : List S68) (v : List Int) (b : Int) (h0 : 0 ≤ b) (hb : b ≤ 1048576) (hl : goodH l) (hv : goodI v) : ∃ r, Ev (fun k => laws_szTxn.f k a l v b) r ∧ (r < 0 ∨ (0 ≤ r ∧ r ≤ b ∧ fitH l ∧ v.length ≤ 1048576)) := by
  have hm : maxLen ≤ 9223372036854775807 := by decide
  obtain ⟨r, h, hr⟩ := szHS l b h0 hb hl
  by_cases c : r < 0
  · exact ⟨-1, Ev.congr (fun k => by unfold laws_szTxn.f; rfl) (h.bind (Ev.congr (fun k => if_pos c) (Ev.now _))), Or.inl (by decide)⟩
  · obtain ⟨h1, h2, h3, h4⟩ := hr.resolve_left c
    have hv1 := hv.1
    by_cases d : (wrap64 (r - (v.length : Int))) < 0
    · refine ⟨-1, Ev.congr (fun k => by unfold laws_szTxn.f; rfl) (h.bind (Ev.congr (fun k => if_neg c) ?_)), Or.inl (by decide)⟩
      unfold laws_szInt64S.f
      exact Ev.congr (fun k => by rw [if_pos d, Option.bind_some, if_pos (by decide)]) (Ev.now (-1))
    · refine ⟨wrap64 (r - (v.length : Int)), Ev.congr (fun k => by unfold laws_szTxn.f; rfl) (h.bind (Ev.congr (fun k => if_neg c) ?_)), Or.inr ?_⟩
      · unfold laws_szInt64S.f
        exact Ev.congr (fun k => by rw [if_neg d, Option.bind_some, if_neg d]) (Ev.now _)
      · rw [w64 (by omega) (by omega)] at d ⊢
        exact ⟨by omega, by omega, h3, by omega⟩
theorem toT (a : Int) (l : List S68) (v : List Int) (hl : fitH l) (hv : v.length ≤ 1048576) : Ev (fun k => laws_toTxn.f k a l v) (a, l.map toH, v) := by
  refine Ev.congr (fun k => by unfold laws_toTxn.f; rfl) ?_
  refine (toHS l hl).bind ?_
  refine (toS_ev (F := laws_toInt64S.f) (fun _ _ => rfl) (fun _ _ _ _ => rfl) v (by omega) (by omega)).bind ?_
  exact Ev.now _
theorem eqT (a : Int) (l : List S61) (v : List Int) (hl : l.length ≤ 1048576 ∧ ∀ y ∈ l, y.f1.length ≤ 1048576) (hv : v.length ≤ 1048576) : Ev (fun k => laws_eqTxn.f k a l v a l v) true := by
  refine Ev.congr (fun k => by unfold laws_eqTxn.f; rw [if_pos rfl]) ?_
  refine (eqHS l hl.1 hl.2).bind ?_
  refine Ev.congr (fun k => if_pos rfl) ?_
  refine (eqS_ev (F := laws_eqInt64S.f) (fun _ _ _ => rfl) (fun _ _ _ _ => rfl) v (by omega)).bind ?_
  exact Ev.congr (fun k => if_pos rfl) (Ev.now true)
theorem rd32 (l : List S27) (i : Nat) (h : i < l.length) : rd_T27 l (i : Int) = l[i] := by simp [rd_T27, h]
theorem rd37 (l : List S34) (i : Nat) (h : i < l.length) : rd_T34 l (i : Int) = l[i] := by simp [rd_T34, h]
def toX (e : S27) : S34 := ⟨e.f0, e.f1.map toH, e.f2⟩
def goodX (l : List S27) : Prop := l.length ≤ maxLen ∧ ∀ y ∈ l, (Lit.int .i64 y.f0).wf = true ∧ goodH y.f1 ∧ goodI y.f2
def fitX (l : List S27) : Prop := l.length ≤ 1048576 ∧ ∀ y ∈ l, fitH y.f1 ∧ y.f2.length ≤ 1048576
theorem szXS (l : List S27) (hl : goodX l) : ∃ r, Ev (fun k => laws_szTxnS.f k l 1048576) r ∧ (r < 0 ∨ fitX l) := by
  have hm : maxLen ≤ 9223372036854775807 := by decide
  obtain ⟨hl, hg⟩ := hl
  by_cases c : (wrap64 (1048576 - (l.length : Int))) < 0
  · exact ⟨-1, Ev.congr (fun k => by unfold laws_szTxnS.f; rw [if_pos c]) (Ev.now _), Or.inl (by decide)⟩
  · rw [w64 (by omega) (by omega)] at c
    have hl6 : l.length ≤ 1048576 := by omega
    have key := down (P := fun i => ∀ s, 0 ≤ s → s ≤ 1048576 → ∃ r, Ev (fun k => laws_szTxnS.l0 k l s (i : Int)) r ∧ (r < 0 ∨ ∀ y ∈ l.drop i, fitH y.f1 ∧ y.f2.length ≤ 1048576)) l.length ?_ ?_
    · obtain ⟨r, h, hr⟩ := key (1048576 - (l.length : Int)) (by omega) (by omega)
      refine ⟨r, Ev.congr (fun k => by unfold laws_szTxnS.f; rw [w64 (by omega) (by omega), if_neg (by omega)]) (show Ev (fun k => laws_szTxnS.l0 k l (1048576 - (l.length : Int)) 0) r from h), ?_⟩
      rcases hr with h | h
      · exact Or.inl h
      · exact Or.inr ⟨hl6, by simpa using h⟩
    · intro s _ _
      exact ⟨s, Ev.step (f := fun _ => some s) (fun k => by simp only [laws_szTxnS.l0]; rw [if_neg (by omega)]) (Ev.now _), Or.inr (by rw [List.drop_length]; intro y hy; cases hy)⟩
    · intro i hi ih s h0 h1
      have hw : wrap64 ((i : Int) + 1) = ((i + 1 : Nat) : Int) := by rw [w64 (by omega) (by omega)]; rfl
      have gy := hg l[i] (List.getElem_mem _)
      obtain ⟨z, hz, hz2⟩ := szT l[i].f0 l[i].f1 l[i].f2 s h0 h1 gy.2.1 gy.2.2
      have st : ∀ q, Ev (fun k => if z < 0 then some (-1) else laws_szTxnS.l0 k l z ((i + 1 : Nat) : Int)) q → Ev (fun k => laws_szTxnS.l0 k l s (i : Int)) q := fun q h => by
        refine Ev.step (f := fun k => (laws_szTxn.f k l[i].f0 l[i].f1 l[i].f2 s).bind fun t => if t < 0 then some (-1) else laws_szTxnS.l0 k l t ((i + 1 : Nat) : Int)) (fun k => ?_) (hz.bind h)
        simp only [laws_szTxnS.l0]
        rw [if_pos (by omega), if_pos (by omega), rd32 l i hi, hw]
      by_cases d : z < 0
      · exact ⟨-1, st _ (Ev.congr (fun k => if_pos d) (Ev.now _)), Or.inl (by decide)⟩
      · obtain ⟨a, b, e, f⟩ := hz2.resolve_left d
        obtain ⟨r, h, hr⟩ := ih z a (by omega)
        refine ⟨r, st _ (Ev.congr (fun k => if_neg d) h), ?_⟩
        rcases hr with h | h
        · exact Or.inl h
        · refine Or.inr (fun y hy => ?_)
          rw [List.drop_eq_getElem_cons hi] at hy
          rcases List.mem_cons.1 hy with rfl | hy
          · exact ⟨e, f⟩
          · exact h y hy
theorem toXS (l : List S27) (hf : fitX l) : Ev (fun k => laws_toTxnS.f k l) (l.map toX) := by
  obtain ⟨hl, hg⟩ := hf
  refine Ev.congr (f := fun k => laws_toTxnS.l0 k l (List.replicate l.length z34) 0) (fun k => by unfold laws_toTxnS.f; rw [if_pos (by omega), if_pos (by simp; omega)]; simp) ?_
  refine fill_ev (L := fun k x i => laws_toTxnS.l0 k l x i) l toX ?_ ?_ _ (by simp)
  · intro i x hi hx r h
    refine Ev.step (f := fun k => (laws_toTxn.f k l[i].f0 l[i].f1 l[i].f2).bind fun t => laws_toTxnS.l0 k l (x.set i (⟨t.1, t.2.1, t.2.2⟩ : S34)) ((i + 1 : Nat) : Int)) (fun k => ?_) ?_
    · simp only [laws_toTxnS.l0]
      rw [if_pos (by omega), if_pos (by omega), w64 (by omega) (by omega), rd32 l i hi, Int.toNat_natCast]
      congr 1
      funext t
      rw [if_pos (by omega)]; rfl
    · have := hg _ (List.getElem_mem hi)
      exact (toT _ _ _ this.1 this.2).bind h
  · intro x hx
    exact Ev.step (f := fun _ => some x) (fun k => by simp only [laws_toTxnS.l0]; rw [if_neg (by omega)]) (Ev.now _)
theorem eqXS (l : List S27) (hf : fitX l) : Ev (fun k => laws_eqTxnS.f k (l.map toX) (l.map toX)) true := by
  obtain ⟨hl, hg⟩ := hf
  have hlen : (l.map toX).length = l.length := by simp
  have hg2 : ∀ y ∈ l.map toX, (y.f1.length ≤ 1048576 ∧ ∀ z ∈ y.f1, z.f1.length ≤ 1048576) ∧ y.f2.length ≤ 1048576 := fun y hy => by
    obtain ⟨z, hz, rfl⟩ := List.mem_map.1 hy
    exact ⟨fit_map z.f1 (hg z hz).1, (hg z hz).2⟩
  generalize l.map toX = m at hlen hg2
  refine Ev.congr (f := fun k => laws_eqTxnS.l0 k m m 0) (fun k => by unfold laws_eqTxnS.f; rw [if_pos rfl]) ?_
  refine eqG_ev (L := laws_eqTxnS.l0) m ?_ ?_
  · intro i hi h
    refine Ev.step (f := fun k => (laws_eqTxn.f k m[i].f0 m[i].f1 m[i].f2 m[i].f0 m[i].f1 m[i].f2).bind fun t => if t = true then laws_eqTxnS.l0 k m m ((i + 1 : Nat) : Int) else some false) (fun k => ?_) ?_
    · simp only [laws_eqTxnS.l0]
      rw [if_pos (by omega), if_pos (by omega), if_pos (by omega), rd37 m i hi, w64 (by omega) (by omega)]
      rfl
    · have := hg2 _ (List.getElem_mem hi)
      refine (eqT _ _ _ this.1 this.2).bind ?_
      exact Ev.congr (fun k => if_pos rfl) h
  · exact Ev.step (f := fun _ => some true) (fun k => by simp only [laws_eqTxnS.l0]; rw [if_neg (by omega)]) (Ev.now _)
/-- A pending write takes one number, and one for each of its bytes. -/
def wW (b : S61) : Nat := 1 + b.f1.length
def mkW (b : S61) (s : Int) : S61 := ⟨s, marks (fun x => x % 256) (s + 1) b.f1.length⟩
theorem tot_le (l : List S61) (h : ∀ y ∈ l, y.f1.length ≤ 1048576) : tot wW l ≤ 1048577 * l.length := by
  induction l with
  | nil => simp [tot]
  | cons b r ih =>
    have h1 := h b (List.mem_cons_self ..)
    have h2 := ih (fun y hy => h y (List.mem_cons_of_mem _ hy))
    simp only [tot, wW, List.length_cons, Nat.mul_succ] at h2 ⊢
    omega
theorem markWS (l : List S61) (s : Int) (h0 : 0 ≤ s) (hl : l.length ≤ 1048576) (hb : s + (tot wW l : Nat) ≤ 4611686018427387904) : Ev (fun k => laws_markHomeS.f k l s) (s + (tot wW l : Nat), marksW mkW wW s l) := by
  refine markW_ev mkW wW (L := laws_markHomeS.l0) 4611686018427387904 ?_ ?_ l s h0 (by omega) hb
  · intro i x s h hx h0 hB r hr
    simp only [wW] at hB hr
    have hw : wrap64 ((i : Int) + 1) = ((i + 1 : Nat) : Int) := by rw [w64 (by omega) (by omega)]; rfl
    have hm : Ev (fun k => laws_markByteS.f k x[i].f1 (s + 1)) _ := mark_ev (fun x => x % 256) (L := laws_markByteS.l0) (fun _ _ _ _ => rfl) x[i].f1 (s + 1) (by omega) (by omega)
    refine Ev.step (f := fun k => (laws_markByteS.f k x[i].f1 (s + 1)).bind fun t => laws_markHomeS.l0 k (x.set i (⟨s, t.2⟩ : S61)) t.1 ((i + 1 : Nat) : Int)) (fun k => ?_) (hm.bind ?_)
    · simp only [laws_markHomeS.l0]
      rw [if_pos (by omega), if_pos (by omega), rd62 x i h, w64 (x := s + 1) (by omega) (by omega), hw, Int.toNat_natCast]
    · rw [show s + 1 + (x[i].f1.length : Int) = s + ((1 + x[i].f1.length : Nat) : Int) by omega]
      exact hr
  · intro x s
    exact Ev.step (f := fun _ => some (s, x)) (fun k => by simp only [laws_markHomeS.l0]; rw [if_neg (by omega)]) (Ev.now _)
theorem heldWS (l : List S61) (s : Int) (h0 : 0 ≤ s) (hl : l.length ≤ 1048576) (hb : s + (tot wW l : Nat) ≤ 4611686018427387904) : Ev (fun k => laws_heldHomeS.f k (marksW mkW wW s l) s) (s + (tot wW l : Nat)) := by
  refine heldW_ev mkW wW (L := laws_heldHomeS.l0) 4611686018427387904 ?_ ?_ l s h0 (by omega) hb
  · intro i x s b h hxb hx h0 hB r hr
    simp only [wW] at hB hr
    have hw : wrap64 ((i : Int) + 1) = ((i + 1 : Nat) : Int) := by rw [w64 (by omega) (by omega)]; rfl
    have hm : Ev (fun k => laws_heldByteS.f k (marks (fun x => x % 256) (s + 1) b.f1.length) (s + 1)) _ := held_ev (fun x => x % 256) (L := laws_heldByteS.l0) (fun _ _ _ _ => rfl) b.f1.length (s + 1) (by omega) (by omega)
    refine Ev.step (f := fun k => (laws_heldByteS.f k (marks (fun x => x % 256) (s + 1) b.f1.length) (s + 1)).bind fun t => if t < 0 then some (-1) else laws_heldHomeS.l0 k x t ((i + 1 : Nat) : Int)) (fun k => ?_) (hm.bind ?_)
    · simp only [laws_heldHomeS.l0]
      rw [if_pos (by omega), if_pos (by omega), rd62 x i h, hxb, if_pos (show (mkW b s).f0 = s from rfl), w64 (x := s + 1) (by omega) (by omega), hw]
      rfl
    · rw [show s + 1 + (b.f1.length : Int) = s + ((1 + b.f1.length : Nat) : Int) by omega]
      exact Ev.congr (fun k => if_neg (by omega)) hr
  · intro x s
    exact Ev.step (f := fun _ => some s) (fun k => by simp only [laws_heldHomeS.l0]; rw [if_neg (by omega)]) (Ev.now _)
/-! ### the reference's lists -/
def up (al : List S61) : Prop := al.Pairwise (fun x y => x.f0 < y.f0)
theorem wo_up {al : List S61} (h : up al) (r : Int) : up (SV.wo al r) := List.Pairwise.filter _ h
theorem wi_up {al : List S61} (h : up al) (x : S61) : up (SV.wi al x) := by
  unfold SV.wi up
  rw [List.pairwise_append, List.pairwise_cons]
  refine ⟨List.Pairwise.filter _ h, ⟨fun y hy => of_decide_eq_true (List.mem_filter.mp hy).2, List.Pairwise.filter _ h⟩, fun y hy z hz => ?_⟩
  have h1 := of_decide_eq_true (List.mem_filter.mp hy).2
  rw [List.mem_cons] at hz
  rcases hz with rfl | hz
  · exact h1
  · exact Int.lt_trans h1 (of_decide_eq_true (List.mem_filter.mp hz).2)
/-- What stands in the list: it rises, its homes came in, and there are at most n. -/
def J (l : List S34) (n : Nat) (al : List S61) : Prop := up al ∧ SV.Of l n al
theorem J.wos {l : List S34} {n : Nat} : ∀ (rs : List Int) {al : List S61}, J l n al → J l n (rs.foldl SV.wo al)
  | [], _, h => h
  | r :: rs, al, h => J.wos (l := l) (n := n) rs (al := SV.wo al r) ⟨wo_up h.1 r, h.2.wo r⟩
theorem J.wis {l : List S34} : ∀ (hs : List S61) {n : Nat} {al : List S61}, (∀ h ∈ hs, ∃ t ∈ l, h ∈ t.f1) → J l n al → J l (n + hs.length) (hs.foldl SV.wi al)
  | [], _, _, _, h => h
  | x :: hs, n, al, hm, h => by
    have := J.wis (l := l) hs (n := n + 1) (al := SV.wi al x) (fun y hy => hm y (List.mem_cons_of_mem _ hy)) ⟨wi_up h.1 x, h.2.wi (hm x (List.mem_cons_self ..))⟩
    rw [List.length_cons, show n + (hs.length + 1) = n + 1 + hs.length by omega]
    exact this
theorem J.tx {l : List S34} {n : Nat} {al : List S61} (h : J l n al) {t : S34} (ht : t ∈ l) : J l (n + (t.f1.length + t.f2.length)) (SV.tx al t) := by
  have := J.wis t.f1 (fun y hy => ⟨t, ht, hy⟩) (J.wos t.f2 h)
  exact ⟨this.1, this.2.wider (by omega)⟩
theorem J.sv (l : List S34) : ∀ i, i ≤ l.length → J l (SV.cnt (l.take i)) (SV.sv (l.take i))
  | 0, _ => ⟨List.Pairwise.nil, ⟨fun h hh => by simp [SV.sv] at hh, by simp [SV.sv]⟩⟩
  | i + 1, hi => by
    have h := J.sv l i (by omega)
    rw [SV.sv_take (by omega), SV.cnt_take (by omega)]
    exact h.tx (List.getElem_mem _)
theorem l1copy (d : List Int) (hd : d.length ≤ 1048576) : spec_l1Copy.f d = some d := by
  unfold spec_l1Copy.f
  rw [Option.bind_some, if_pos (by simp only [List.length_nil]; omega), List.nil_append]
theorem without_ev (l : List S61) (r : Int) (hl : l.length ≤ 1048576) : Ev (fun k => spec_l5Without.f k l r) (SV.wo l r) := by
  have key := down (P := fun i => ∀ acc : List S61, acc.length ≤ i → Ev (fun k => spec_l5Without.l0 k l r acc (i : Int)) (acc ++ (l.drop i).filter (fun h => h.f0 != r))) l.length ?_ ?_
  · have := key [] (by simp)
    simpa [spec_l5Without.f, SV.wo] using this
  · intro acc _
    rw [List.drop_length]
    exact Ev.step (f := fun _ => some acc) (fun k => by simp only [spec_l5Without.l0]; rw [if_neg (by omega)]) (by simpa using Ev.now acc)
  · intro i hi ih acc ha
    have hw : wrap64 ((i : Int) + 1) = ((i + 1 : Nat) : Int) := by rw [w64 (by omega) (by omega)]; rfl
    rw [List.drop_eq_getElem_cons hi, List.filter_cons]
    by_cases c : l[i].f0 = r
    · rw [if_neg (by simp [c])]
      exact Ev.step (fun k => by simp only [spec_l5Without.l0]; rw [if_pos (by omega), if_pos (by omega), rd62 l i hi, if_pos c, hw]) (ih acc (by omega))
    · rw [if_pos (by simp [c])]
      have := ih (acc ++ [l[i]]) (by rw [List.length_append]; simp; omega)
      rw [List.append_assoc, List.singleton_append] at this
      exact Ev.step (fun k => by simp only [spec_l5Without.l0]; rw [if_pos (by omega), if_pos (by omega), rd62 l i hi, if_neg c, if_pos (by omega), hw]) this
/-- The home put in where it belongs. -/
def wl (h : S61) : List S61 → List S61
  | [] => [h]
  | x :: r => if x.f0 ≥ h.f0 then h :: (x :: r).filter (fun y => y.f0 != h.f0) else x :: wl h r
theorem wl_wi (h : S61) : ∀ (l : List S61), up l → wl h l = SV.wi l h
  | [], _ => rfl
  | x :: r, hu => by
    have hr := (List.pairwise_cons.mp hu).1
    have hu' : up r := (List.pairwise_cons.mp hu).2
    unfold wl
    by_cases c : x.f0 ≥ h.f0
    · rw [if_pos c]
      have e1 : (x :: r).filter (fun y => decide (y.f0 < h.f0)) = [] := by
        rw [List.filter_eq_nil_iff]
        intro y hy
        rcases List.mem_cons.mp hy with rfl | hy
        · simp; omega
        · have := hr y hy; simp; omega
      have e2 : (x :: r).filter (fun y => y.f0 != h.f0) = (x :: r).filter (fun y => decide (h.f0 < y.f0)) := by
        apply List.filter_congr
        intro y hy
        have hy' : h.f0 ≤ y.f0 := by
          rcases List.mem_cons.mp hy with rfl | hy
          · exact c
          · have := hr y hy; omega
        by_cases d : y.f0 = h.f0
        · simp [d]
        · have : h.f0 < y.f0 := by omega
          simp [d, this]
      unfold SV.wi
      rw [e1, e2, List.nil_append]
    · rw [if_neg c, wl_wi h r hu']
      have h1 : x.f0 < h.f0 := by omega
      have h2 : ¬ h.f0 < x.f0 := by omega
      simp [SV.wi, h1, h2]
theorem with_done (l : List S61) (a : Int) (d : List Int) (hl : l.length ≤ 1048576) : ∀ i, i ≤ l.length → ∀ acc : List S61, acc.length ≤ i + 1 → Ev (fun k => spec_l5With.l0 k l acc true (i : Int) a d) (acc ++ (l.drop i).filter (fun h => h.f0 != a)) := by
  have key : ∀ m, m ≤ l.length → ∀ acc : List S61, acc.length ≤ l.length - m + 1 → Ev (fun k => spec_l5With.l0 k l acc true ((l.length - m : Nat) : Int) a d) (acc ++ (l.drop (l.length - m)).filter (fun h => h.f0 != a)) := by
    intro m
    induction m with
    | zero =>
      intro _ acc _
      rw [Nat.sub_zero, List.drop_length]
      exact Ev.step (f := fun _ => some acc) (fun k => by simp only [spec_l5With.l0]; rw [if_neg (by omega), if_pos trivial]) (by simpa using Ev.now acc)
    | succ m ih =>
      intro hm acc ha
      obtain ⟨i, hi⟩ : ∃ i, l.length - (m + 1) = i := ⟨_, rfl⟩
      have hi1 : l.length - m = i + 1 := by omega
      have hil : i < l.length := by omega
      rw [hi1] at ih
      rw [hi] at ha ⊢
      have hw : wrap64 ((i : Int) + 1) = ((i + 1 : Nat) : Int) := by rw [w64 (by omega) (by omega)]; rfl
      refine Ev.step (f := fun k => spec_l5With.j1 k l acc true (i : Int) false a d) (fun k => by simp only [spec_l5With.l0]; rw [if_pos (by omega), if_pos trivial]) ?_
      rw [List.drop_eq_getElem_cons hil, List.filter_cons]
      by_cases c : l[i].f0 = a
      · rw [if_neg (by simp [c])]
        exact Ev.step (fun k => by simp only [spec_l5With.j1]; rw [if_neg (by decide), if_pos (by omega), if_pos (by omega), rd62 l i hil, if_pos c, hw]) (ih (by omega) acc (by omega))
      · rw [if_pos (by simp [c])]
        have := ih (by omega) (acc ++ [l[i]]) (by rw [List.length_append]; simp; omega)
        rw [List.append_assoc, List.singleton_append] at this
        exact Ev.step (fun k => by simp only [spec_l5With.j1]; rw [if_neg (by decide), if_pos (by omega), if_pos (by omega), rd62 l i hil, if_neg c, if_pos (by omega), hw]) this
  intro i hi acc ha
  have := key (l.length - i) (by omega) acc (by omega)
  rw [show l.length - (l.length - i) = i by omega] at this
  exact this
theorem with_ev (l : List S61) (a : Int) (d : List Int) (hl : l.length ≤ 1048576) (hu : up l) (hd : d.length ≤ 1048576) : Ev (fun k => spec_l5With.f k l a d) (SV.wi l ⟨a, d⟩) := by
  rw [← wl_wi _ l hu]
  have hc := l1copy d hd
  have key := down (P := fun i => ∀ acc : List S61, acc.length ≤ i → Ev (fun k => spec_l5With.l0 k l acc false (i : Int) a d) (acc ++ wl ⟨a, d⟩ (l.drop i))) l.length ?_ ?_
  · have := key [] (by simp)
    simpa [spec_l5With.f] using this
  · intro acc ha
    rw [List.drop_length]
    exact Ev.step (f := fun _ => some (acc ++ [(⟨a, d⟩ : S61)])) (fun k => by simp only [spec_l5With.l0]; rw [if_neg (by omega), if_neg (by decide), hc, Option.bind_some, if_pos (by omega)]) (Ev.now _)
  · intro i hi ih acc ha
    have hw : wrap64 ((i : Int) + 1) = ((i + 1 : Nat) : Int) := by rw [w64 (by omega) (by omega)]; rfl
    refine Ev.step (f := fun k => spec_l5With.j1 k l acc false (i : Int) (decide (l[i].f0 ≥ a)) a d) (fun k => by simp only [spec_l5With.l0]; rw [if_pos (by omega), if_neg (by decide), if_pos (by omega), rd62 l i hi]) ?_
    rw [List.drop_eq_getElem_cons hi]
    unfold wl
    by_cases c : l[i].f0 ≥ a
    · rw [if_pos c, decide_eq_true c, ← List.singleton_append, ← List.append_assoc, List.filter_cons]
      have hyl : (acc ++ [(⟨a, d⟩ : S61)]).length ≤ i + 1 := by rw [List.length_append]; simp; omega
      by_cases e : l[i].f0 = a
      · rw [if_neg (by simp [e])]
        refine Ev.step (fun k => ?_) (with_done l a d hl (i + 1) (by omega) (acc ++ [(⟨a, d⟩ : S61)]) (by omega))
        simp only [spec_l5With.j1]
        rw [if_pos trivial, hc, Option.bind_some, if_pos (by omega), Option.bind_some, if_pos (by omega), if_pos (by omega), rd62 l i hi, if_pos e, hw]
      · rw [if_pos (by simp [e])]
        have := with_done l a d hl (i + 1) (by omega) (acc ++ [(⟨a, d⟩ : S61)] ++ [l[i]]) (by rw [List.length_append]; simp at hyl ⊢; omega)
        rw [List.append_assoc (acc ++ [(⟨a, d⟩ : S61)]), List.singleton_append] at this
        refine Ev.step (fun k => ?_) this
        simp only [spec_l5With.j1]
        rw [if_pos trivial, hc, Option.bind_some, if_pos (by omega), Option.bind_some, if_pos (by omega), if_pos (by omega), rd62 l i hi, if_neg e, if_pos (by omega), hw]
    · rw [if_neg c, decide_eq_false c]
      have := ih (acc ++ [l[i]]) (by rw [List.length_append]; simp; omega)
      rw [List.append_assoc, List.singleton_append] at this
      exact Ev.step (fun k => by simp only [spec_l5With.j1]; rw [if_neg (by decide), if_pos (by omega), if_pos (by omega), rd62 l i hi, if_neg (by omega), if_pos (by omega), hw]) this
/-! ### the reference's walk over the transactions -/
theorem homes_ev (x : List S34) (i : Nat) (hi : i < x.length) (hx : x.length ≤ 1048576) (n : Nat) (al : List S61) (R : List S61) (hj : J x n al) (hn : n + x[i].f1.length ≤ 1048576) (hd : ∀ h ∈ x[i].f1, h.f1.length ≤ 1048576)
    (hR : Ev (fun k => spec_Survivors.l1 k x (x[i].f1.foldl SV.wi al) ((i + 1 : Nat) : Int)) R) : Ev (fun k => spec_Survivors.l3 k x al (i : Int) 0) R := by
  have hrd := rd37 x i hi
  have hwi : wrap64 ((i : Int) + 1) = ((i + 1 : Nat) : Int) := by rw [w64 (by omega) (by omega)]; rfl
  have key := down (P := fun j => Ev (fun k => spec_Survivors.l3 k x ((x[i].f1.take j).foldl SV.wi al) (i : Int) (j : Int)) R) x[i].f1.length ?_ ?_
  · simpa using key
  · rw [List.take_length]
    exact Ev.step (fun k => by simp only [spec_Survivors.l3]; rw [if_pos (by omega), if_pos (by omega), hrd, if_neg (by omega), hwi]) hR
  · intro j hjl ih
    have hw : wrap64 ((j : Int) + 1) = ((j + 1 : Nat) : Int) := by rw [w64 (by omega) (by omega)]; rfl
    rw [SV.fold_take SV.wi al x[i].f1 hjl] at ih
    have hJ := J.wis (l := x) (x[i].f1.take j) (fun y hy => ⟨x[i], List.getElem_mem _, List.mem_of_mem_take hy⟩) hj
    have hlen := hJ.2.len
    rw [List.length_take] at hlen
    have := with_ev ((x[i].f1.take j).foldl SV.wi al) x[i].f1[j].f0 x[i].f1[j].f1 (by omega) hJ.1 (hd _ (List.getElem_mem _))
    exact Ev.step (fun k => by simp only [spec_Survivors.l3]; rw [if_pos (by omega), if_pos (by omega), hrd, if_pos (by omega), if_pos (by omega), rd62 x[i].f1 j hjl, hw]) (this.bind ih)
theorem revs_ev (x : List S34) (i : Nat) (hi : i < x.length) (n : Nat) (al : List S61) (R : List S61) (hj : J x n al) (hn : n ≤ 1048576) (hr : x[i].f2.length ≤ 1048576)
    (hR : Ev (fun k => spec_Survivors.l3 k x (x[i].f2.foldl SV.wo al) (i : Int) 0) R) : Ev (fun k => spec_Survivors.l2 k x al (i : Int) 0) R := by
  have hrd := rd37 x i hi
  have key := down (P := fun j => Ev (fun k => spec_Survivors.l2 k x ((x[i].f2.take j).foldl SV.wo al) (i : Int) (j : Int)) R) x[i].f2.length ?_ ?_
  · simpa using key
  · rw [List.take_length]
    exact Ev.step (fun k => by simp only [spec_Survivors.l2]; rw [if_pos (by omega), if_pos (by omega), hrd, if_neg (by omega)]) hR
  · intro j hjl ih
    have hw : wrap64 ((j : Int) + 1) = ((j + 1 : Nat) : Int) := by rw [w64 (by omega) (by omega)]; rfl
    rw [SV.fold_take SV.wo al x[i].f2 hjl] at ih
    have hJ := J.wos (l := x) (x[i].f2.take j) hj
    have hlen := hJ.2.len
    have := without_ev ((x[i].f2.take j).foldl SV.wo al) x[i].f2[j] (by omega)
    exact Ev.step (fun k => by simp only [spec_Survivors.l2]; rw [if_pos (by omega), if_pos (by omega), hrd, if_pos (by omega), if_pos (by omega), rd_nat x[i].f2 j hjl, hw]) (this.bind ih)
theorem spec_ev (x : List S34) (hf : SV.Fit x) : Ev (fun k => spec_Survivors.f k x) (SV.f x) := by
  have hlen := hf.len
  have hsum := hf.sum
  suffices hj : Ev (fun k => if (x.length : Int) > 512 then spec_Survivors.j1 k x [] true else spec_Survivors.j1 k x [] (decide (((SV.cnt x : Nat) : Int) > 10000))) (SV.f x) by
    have key := down (P := fun i => Ev (fun k => spec_Survivors.l0 k x ((SV.cnt (x.take i) : Nat) : Int) (i : Int)) (SV.f x)) x.length ?_ ?_
    · simpa [spec_Survivors.f, SV.cnt] using key
    · rw [List.take_length]
      exact Ev.step (fun k => by simp only [spec_Survivors.l0]; rw [if_neg (by omega), Option.bind_some]) hj
    · intro i hi ih
      have hw : wrap64 ((i : Int) + 1) = ((i + 1 : Nat) : Int) := by rw [w64 (by omega) (by omega)]; rfl
      have hct := SV.cnt_take hi
      have hcl := SV.cnt_le x (i + 1)
      have hc : wrap64 (wrap64 (((SV.cnt (x.take i) : Nat) : Int) + (x[i].f1.length : Int)) + (x[i].f2.length : Int)) = ((SV.cnt (x.take (i + 1)) : Nat) : Int) := by
        rw [w64 (x := ((SV.cnt (x.take i) : Nat) : Int) + (x[i].f1.length : Int)) (by omega) (by omega), w64 (by omega) (by omega)]; omega
      exact Ev.step (fun k => by simp only [spec_Survivors.l0]; rw [if_pos (by omega), if_pos (by omega), rd37 x i hi, hc, hw]) ih
  have ht : Ev (fun k => spec_Survivors.j1 k x [] true) [] := Ev.step (f := fun _ => some []) (fun k => by simp only [spec_Survivors.j1]; rw [if_pos trivial]) (Ev.now _)
  by_cases c1 : 512 < x.length
  · rw [show SV.f x = [] from if_pos (Or.inl c1)]
    exact Ev.congr (fun k => if_pos (by omega)) ht
  refine Ev.congr (fun k => if_neg (by omega)) ?_
  by_cases c2 : 10000 < SV.cnt x
  · rw [show SV.f x = [] from if_pos (Or.inr c2), decide_eq_true (by omega)]
    exact ht
  rw [show SV.f x = SV.sv x from if_neg (by omega), decide_eq_false (by omega)]
  refine Ev.step (f := fun k => spec_Survivors.l1 k x [] 0) (fun k => by simp only [spec_Survivors.j1]; rw [if_neg (by decide)]) ?_
  have key := down (P := fun i => Ev (fun k => spec_Survivors.l1 k x (SV.sv (x.take i)) (i : Int)) (SV.sv x)) x.length ?_ ?_
  · simpa [SV.sv] using key
  · rw [List.take_length]
    exact Ev.step (f := fun _ => some (SV.sv x)) (fun k => by simp only [spec_Survivors.l1]; rw [if_neg (by omega)]) (Ev.now _)
  · intro i hi ih
    rw [SV.sv_take hi] at ih
    have hJ := J.sv x i (by omega)
    have hcl := SV.cnt_le x i
    have hct := SV.cnt_take hi
    have hcl2 := SV.cnt_le x (i + 1)
    have hmem := SV.cnt_mem (List.getElem_mem hi)
    refine Ev.step (f := fun k => spec_Survivors.l2 k x (SV.sv (x.take i)) (i : Int) 0) (fun k => by simp only [spec_Survivors.l1]; rw [if_pos (by omega)]) ?_
    refine revs_ev x i hi _ _ _ hJ (by omega) (by omega) ?_
    exact homes_ev x i hi (by omega) _ _ _ (J.wos _ hJ) (by omega) (fun h hh => (hf.hom _ (List.getElem_mem _) h hh).2) ih
/-! ### what the law wants besides -/
theorem sum_le {α : Type} (w : α → Nat) (B : Nat) : ∀ (l : List α), (∀ y ∈ l, w y ≤ B) → (l.map w).sum ≤ B * l.length
  | [], _ => by simp
  | a :: r, h => by
    have h1 := h a (List.mem_cons_self ..)
    have h2 := sum_le w B r (fun y hy => h y (List.mem_cons_of_mem _ hy))
    rw [List.map_cons, List.sum_cons, List.length_cons, Nat.mul_succ]
    omega
theorem fit (l : List S27) (hf : fitX l) (hg : goodX l) : SV.Fit (l.map toX) := by
  refine ⟨by simpa using hf.1, ?_, fun t ht r hr => ?_, fun t ht h hh => ?_⟩
  · have := sum_le (fun t : S34 => t.f1.length + t.f2.length) 2097152 (l.map toX) (fun y hy => by
      obtain ⟨z, hz, rfl⟩ := List.mem_map.1 hy
      have := hf.2 z hz
      have h1 := this.1.1
      have h2 := this.2
      simp only [toX, List.length_map]; omega)
    have h1 := hf.1
    rw [List.length_map] at this
    unfold SV.cnt
    omega
  · obtain ⟨z, hz, rfl⟩ := List.mem_map.1 ht
    exact (hg.2 z hz).2.2.2 r hr
  · obtain ⟨z, hz, rfl⟩ := List.mem_map.1 ht
    obtain ⟨u, hu, rfl⟩ := List.mem_map.1 (show h ∈ z.f1.map toH from hh)
    exact ⟨((hg.2 z hz).2.1.2 u hu).1, (hf.2 z hz).1.2 u hu⟩
theorem st_fit (l : List S27) (hf : fitX l) : 1 + (MS.st (MS.len (l.map toX)) : Int) ≤ 4611686018427387904 := by
  have := sum_le (fun t : List Nat × Nat => 1 + MS.sh t.1 + t.2) 1099513724929 (MS.len (l.map toX)) (fun y hy => by
    unfold MS.len at hy
    obtain ⟨z0, hz0, rfl⟩ := List.mem_map.1 hy
    obtain ⟨z, hz, rfl⟩ := List.mem_map.1 hz0
    have h := hf.2 z hz
    have h1 := h.1.1
    have h2 := h.2
    have h3 := sum_le (fun e : S61 => e.f1.length) 1048576 (z.f1.map toH) (fun y hy => by
      obtain ⟨u, hu, rfl⟩ := List.mem_map.1 hy
      exact h.1.2 u hu)
    rw [List.length_map] at h3
    simp only [toX, MS.sh, List.length_map]
    omega)
  have h1 := hf.1
  have e : (MS.len (l.map toX)).length = l.length := by unfold MS.len; rw [List.length_map, List.length_map]
  rw [e] at this
  unfold MS.st
  omega
theorem f_fit (x : List S34) (hf : SV.Fit x) : (SV.f x).length ≤ 1048576 ∧ ∀ y ∈ SV.f x, y.f1.length ≤ 1048576 := by
  unfold SV.f
  split
  · exact ⟨by simp, fun y hy => by cases hy⟩
  · rename_i c
    have h := J.sv x x.length (Nat.le_refl _)
    rw [List.take_length] at h
    refine ⟨by have := h.2.len; omega, fun y hy => ?_⟩
    obtain ⟨t, ht, hy'⟩ := h.2.mem y hy
    exact (hf.hom t ht y hy').2
end SX
theorem FnExactSurvivors (l : List S27) (g0 : l.length ≤ maxLen ∧ ∀ y ∈ l, (Lit.int .i64 y.f0).wf = true ∧ (y.f1.length ≤ maxLen ∧ ∀ z ∈ y.f1, (Lit.int .i64 z.f0).wf = true ∧ (z.f1.length ≤ maxLen ∧ ∀ u ∈ z.f1, (Lit.int .u8 u).wf = true)) ∧ (y.f2.length ≤ maxLen ∧ ∀ z ∈ y.f2, (Lit.int .i64 z).wf = true)) : ∃ k, laws_FnExactSurvivors.f k l = some true := by
  obtain ⟨z, hz, hz2⟩ := SX.szXS l g0
  refine ⟨0, ?_⟩
  unfold laws_FnExactSurvivors.f
  refine if_pos ⟨z, hz.rounds, ?_⟩
  by_cases c : z < 0
  · exact Or.inl c
  have hf := hz2.resolve_left c
  have hF := SX.fit l hf g0
  have hff := SX.f_fit (l.map SX.toX) hF
  have ht := SX.tot_le (SV.f (l.map SX.toX)) hff.2
  have hm := SX.markWS (SV.f (l.map SX.toX)) 1 (by decide) hff.1 (by have := hff.1; omega)
  have hh := SX.heldWS (SV.f (l.map SX.toX)) 1 (by decide) hff.1 (by have := hff.1; omega)
  exact Or.inr ⟨l.map SX.toX, SV.f (l.map SX.toX), _, _, (SX.toXS l hf).rounds, (SX.spec_ev _ hF).rounds, hF, (SX.eqHS _ hff.1 hff.2).rounds, (SX.eqXS l hf).rounds, SX.st_fit l hf, hm.rounds, hh.rounds, by omega⟩
end Go.Proofs.Ytkehfdadplpaeaa.Pure
