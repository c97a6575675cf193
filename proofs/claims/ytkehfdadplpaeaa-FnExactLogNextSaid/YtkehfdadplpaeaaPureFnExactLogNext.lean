/- FnExactLogNext: at every log and transaction the program's LogNext returns the log that the reference's returns, and the transaction stays as it was. -/
import Derived.Test.YtkehfdadplpaeaaPFnExactLogNextx12
import Derived.Test.YtkehfdadplpaeaaVLNHlp2
namespace Go.Proofs.Ytkehfdadplpaeaa.Pure
open Go.RowKit Go.Proofs.Ytkehfdadplpaeaa.PFnExactLogNext Go.Proofs.YtkehfdadplpaeaaW.PrintWords Go.Proofs.YtkehfdadplpaeaaW.PrintLast Go.Proofs.YtkehfdadplpaeaaW.PrintMore Go.Proofs.Ytkehfdadplpaeaa.Hlp
namespace TL
theorem rd78 (l : List S68) (i : Nat) (h : i < l.length) : rd_T68 l (i : Int) = l[i] := by simp [rd_T68, h]
theorem rd62 (l : List S61) (i : Nat) (h : i < l.length) : rd_T61 l (i : Int) = l[i] := by simp [rd_T61, h]
def toH (e : S68) : S61 := ⟨e.f0, e.f1⟩
def goodH (l : List S68) : Prop := l.length ≤ maxLen ∧ ∀ y ∈ l, (Lit.int .i64 y.f0).wf = true ∧ (y.f1.length ≤ maxLen ∧ ∀ z ∈ y.f1, (Lit.int .u8 z).wf = true)
def goodI (l : List Int) : Prop := l.length ≤ maxLen ∧ ∀ y ∈ l, (Lit.int .i64 y).wf = true
/-- Lengths within the budget. -/
def fitH (l : List S68) : Prop := l.length ≤ 1048576 ∧ ∀ y ∈ l, y.f1.length ≤ 1048576
theorem mem_sum (l : List S68) (y : S68) (h : y ∈ l) : y.f1.length ≤ (l.map (fun e => e.f1.length)).sum := by
  induction l with
  | nil => cases h
  | cons a r ih =>
    rw [List.map_cons, List.sum_cons]
    rcases List.mem_cons.1 h with rfl | h
    · omega
    · have := ih h; omega
theorem szHS (l : List S68) (b : Int) (h0 : 0 ≤ b) (hb : b ≤ 1048576) (hl : goodH l) : ∃ r, Ev (fun k => laws_szHomeS.f k l b) r ∧ (r < 0 ∨ (0 ≤ r ∧ r ≤ b ∧ fitH l ∧ l.length + r ≤ b)) := by
  have hm : maxLen ≤ 9223372036854775807 := by decide
  obtain ⟨hl, hg⟩ := hl
  by_cases c : (wrap64 (b - (l.length : Int))) < 0
  · exact ⟨-1, Ev.congr (fun k => by unfold laws_szHomeS.f; rw [if_pos c]) (Ev.now _), Or.inl (by decide)⟩
  · rw [w64 (by omega) (by omega)] at c
    have hl6 : l.length ≤ 1048576 := by omega
    obtain ⟨r, h, hr⟩ := szG_ev (fun e : S68 => e.f1.length) (L := laws_szHomeS.l0) l (by
      intro i s hi h0 hs
      have hy := (hg l[i] (List.getElem_mem _)).2.1
      have hw : wrap64 ((i : Int) + 1) = ((i + 1 : Nat) : Int) := by rw [w64 (by omega) (by omega)]; rfl
      by_cases d : (l[i].f1.length : Int) ≤ s
      · refine Or.inr ⟨d, fun r h => Ev.step (fun k => ?_) h⟩
        simp only [laws_szHomeS.l0, laws_szHome.f, laws_szByteS.f]
        rw [if_pos (by omega), if_pos (by omega), rd78 l i hi, w64 (x := s - _) (by omega) (by omega), if_neg (by omega), Option.bind_some, if_neg (by omega), Option.bind_some, if_neg (by omega), hw]
      · refine Or.inl ⟨-1, by decide, Ev.step (f := fun _ => some (-1)) (fun k => ?_) (Ev.now _)⟩
        simp only [laws_szHomeS.l0, laws_szHome.f, laws_szByteS.f]
        rw [if_pos (by omega), if_pos (by omega), rd78 l i hi, w64 (x := s - _) (by omega) (by omega), if_pos (by omega), Option.bind_some, if_pos (by omega), Option.bind_some, if_pos (by omega)])
      (fun s => Ev.step (f := fun _ => some s) (fun k => by simp only [laws_szHomeS.l0]; rw [if_neg (by omega)]) (Ev.now _)) (b - (l.length : Int)) (by omega) (by omega)
    refine ⟨r, Ev.congr (fun k => by unfold laws_szHomeS.f; rw [w64 (by omega) (by omega), if_neg (by omega)]) h, ?_⟩
    rcases hr with h | ⟨h1, h2⟩
    · exact Or.inl h
    · refine Or.inr ⟨h1, by omega, ⟨hl6, fun y hy => ?_⟩, by omega⟩
      have := mem_sum l y hy; omega
theorem toHome_ev (a : Int) (d : List Int) (hd : d.length ≤ 1048576) : Ev (fun k => laws_toHome.f k a d) (a, d) := by
  refine Ev.congr (fun k => by unfold laws_toHome.f; rfl) ?_
  refine (toS_ev (F := laws_toByteS.f) (fun _ _ => rfl) (fun _ _ _ _ => rfl) d (by omega) (by omega)).bind ?_
  exact Ev.now _
theorem toHS (l : List S68) (hf : fitH l) : Ev (fun k => laws_toHomeS.f k l) (l.map toH) := by
  obtain ⟨hl, hg⟩ := hf
  refine Ev.congr (f := fun k => laws_toHomeS.l0 k l (List.replicate l.length z61) 0) (fun k => by unfold laws_toHomeS.f; rw [if_pos (by omega), if_pos (by simp; omega)]; simp) ?_
  refine fill_ev (L := fun k x i => laws_toHomeS.l0 k l x i) l toH ?_ ?_ _ (by simp)
  · intro i x hi hx r h
    refine Ev.step (f := fun k => (laws_toHome.f k l[i].f0 l[i].f1).bind fun t => laws_toHomeS.l0 k l (x.set i (⟨t.1, t.2⟩ : S61)) ((i + 1 : Nat) : Int)) (fun k => ?_) ?_
    · simp only [laws_toHomeS.l0]
      rw [if_pos (by omega), if_pos (by omega), w64 (by omega) (by omega), rd78 l i hi, Int.toNat_natCast]
      congr 1
      funext t
      rw [if_pos (by omega)]; rfl
    · exact (toHome_ev _ _ (hg _ (List.getElem_mem _))).bind h
  · intro x hx
    exact Ev.step (f := fun _ => some x) (fun k => by simp only [laws_toHomeS.l0]; rw [if_neg (by omega)]) (Ev.now _)
theorem eqHome_ev (a : Int) (d : List Int) (hd : d.length ≤ 1048576) : Ev (fun k => laws_eqHome.f k a d a d) true := by
  refine Ev.congr (fun k => by unfold laws_eqHome.f; rw [if_pos rfl]) ?_
  refine (eqS_ev (F := laws_eqByteS.f) (fun _ _ _ => rfl) (fun _ _ _ _ => rfl) d (by omega)).bind ?_
  exact Ev.congr (fun k => if_pos rfl) (Ev.now true)
theorem eqHS (l : List S61) (hl : l.length ≤ 1048576) (hg : ∀ y ∈ l, y.f1.length ≤ 1048576) : Ev (fun k => laws_eqHomeS.f k l l) true := by
  refine Ev.congr (f := fun k => laws_eqHomeS.l0 k l l 0) (fun k => by unfold laws_eqHomeS.f; rw [if_pos rfl]) ?_
  refine eqG_ev (L := laws_eqHomeS.l0) l ?_ ?_
  · intro i hi h
    refine Ev.step (f := fun k => (laws_eqHome.f k l[i].f0 l[i].f1 l[i].f0 l[i].f1).bind fun t => if t = true then laws_eqHomeS.l0 k l l ((i + 1 : Nat) : Int) else some false) (fun k => ?_) ?_
    · simp only [laws_eqHomeS.l0]
      rw [if_pos (by omega), if_pos (by omega), if_pos (by omega), rd62 l i hi, w64 (by omega) (by omega)]
      rfl
    · refine (eqHome_ev _ _ (hg _ (List.getElem_mem _))).bind ?_
      exact Ev.congr (fun k => if_pos rfl) h
  · exact Ev.step (f := fun _ => some true) (fun k => by simp only [laws_eqHomeS.l0]; rw [if_neg (by omega)]) (Ev.now _)
theorem fit_map (l : List S68) (hf : fitH l) : (l.map toH).length ≤ 1048576 ∧ ∀ y ∈ l.map toH, y.f1.length ≤ 1048576 := by
  refine ⟨by simpa using hf.1, fun y hy => ?_⟩
  obtain ⟨z, hz, rfl⟩ := List.mem_map.1 hy
  exact hf.2 z hz
/-- A whole transaction. -/
theorem szT (a : Int) (l : List S68) (v : List Int) (b : Int) (h0 : 0 ≤ b) (hb : b ≤ 1048576) (hl : goodH l) (hv : goodI v) : ∃ r, Ev (fun k => laws_szTxn.f k a l v b) r ∧ (r < 0 ∨ (0 ≤ r ∧ r ≤ b ∧ fitH l ∧ v.length ≤ 1048576)) := by
  have hm : maxLen ≤ 9223372036854775807 := by decide
  obtain ⟨r, h, hr⟩ := szHS l b h0 hb hl
  by_cases c : r < 0
  · exact ⟨-1, Ev.congr (fun k => by unfold laws_szTxn.f; rfl) (h.bind (Ev.congr (fun k => if_pos c) (Ev.now _))), Or.inl (by decide)⟩
  · obtain ⟨h1, h2, h3, h4⟩ := hr.resolve_left c
    have hv1 := hv.1
    by_cases d : (wrap64 (r - (v.length : Int))) < 0
    · refine ⟨-1, Ev.congr (fun k => by unfold laws_szTxn.f; rfl) (h.bind (Ev.congr (fun k => if_neg c) ?_)), Or.inl (by decide)⟩
      unfold laws_szInt64S.f
      exact Ev.congr (fun k => by rw [if_pos d, Option.bind_some, if_pos (by decide)]) (Ev.now (-1))
    · refine ⟨wrap64 (r - (v.length : Int)), Ev.congr (fun k => by unfold laws_szTxn.f; rfl) (h.bind (Ev.congr (fun k => if_neg c) ?_)), Or.inr ?_⟩
      · unfold laws_szInt64S.f
        exact Ev.congr (fun k => by rw [if_neg d, Option.bind_some, if_neg d]) (Ev.now _)
      · rw [w64 (by omega) (by omega)] at d ⊢
        exact ⟨by omega, by omega, h3, by omega⟩
theorem toT (a : Int) (l : List S68) (v : List Int) (hl : fitH l) (hv : v.length ≤ 1048576) : Ev (fun k => laws_toTxn.f k a l v) (a, l.map toH, v) := by
  refine Ev.congr (fun k => by unfold laws_toTxn.f; rfl) ?_
  refine (toHS l hl).bind ?_
  refine (toS_ev (F := laws_toInt64S.f) (fun _ _ => rfl) (fun _ _ _ _ => rfl) v (by omega) (by omega)).bind ?_
  exact Ev.now _
theorem eqT (a : Int) (l : List S61) (v : List Int) (hl : l.length ≤ 1048576 ∧ ∀ y ∈ l, y.f1.length ≤ 1048576) (hv : v.length ≤ 1048576) : Ev (fun k => laws_eqTxn.f k a l v a l v) true := by
  refine Ev.congr (fun k => by unfold laws_eqTxn.f; rw [if_pos rfl]) ?_
  refine (eqHS l hl.1 hl.2).bind ?_
  refine Ev.congr (fun k => if_pos rfl) ?_
  refine (eqS_ev (F := laws_eqInt64S.f) (fun _ _ _ => rfl) (fun _ _ _ _ => rfl) v (by omega)).bind ?_
  exact Ev.congr (fun k => if_pos rfl) (Ev.now true)
theorem has_ev (v : List Int) (x : Int) (hv : v.length ≤ 1048576) : Ev (fun k => spec_l4Has.f k v x) (decide (x ∈ v)) := by
  have := down (P := fun i => Ev (fun k => spec_l4Has.l0 k v x (i : Int)) (decide (x ∈ v.drop i))) v.length ?_ ?_
  · simpa [spec_l4Has.f] using this
  · rw [List.drop_length]
    exact Ev.step (f := fun _ => some (decide (x ∈ ([] : List Int)))) (fun k => by simp only [spec_l4Has.l0]; rw [if_neg (by omega)]; simp) (Ev.now _)
  · intro i hi h
    have hw : wrap64 ((i : Int) + 1) = ((i + 1 : Nat) : Int) := by rw [w64 (by omega) (by omega)]; rfl
    rw [List.drop_eq_getElem_cons hi]
    by_cases c : v[i] = x
    · rw [decide_eq_true (by rw [c]; exact List.mem_cons_self)]
      exact Ev.step (f := fun _ => some true) (fun k => by simp only [spec_l4Has.l0]; rw [if_pos (by omega), if_pos (by omega), rd_nat v i hi, if_pos c]) (Ev.now _)
    · have e : decide (x ∈ v[i] :: v.drop (i + 1)) = decide (x ∈ v.drop (i + 1)) := by
        rw [decide_eq_decide]
        exact ⟨fun h => (List.mem_cons.1 h).resolve_left (Ne.symm c), List.mem_cons_of_mem _⟩
      rw [e]
      exact Ev.step (fun k => by simp only [spec_l4Has.l0]; rw [if_pos (by omega), if_pos (by omega), rd_nat v i hi, if_neg c, hw]) h
/-- A good number at j, above the one before it. -/
def okR (v : List Int) (j : Nat) : Prop := 0 ≤ rd v (j : Int) ∧ rd v (j : Int) < 2048 ∧ (0 < j → rd v ((j : Int) - 1) < rd v (j : Int))
theorem okR_step (v : List Int) (i : Nat) (r : Bool) (c : okR v i) (h : r = true → ∀ j, i + 1 ≤ j → j < v.length → okR v j) : r = true → ∀ j, i ≤ j → j < v.length → okR v j := fun hr j h1 h2 => by
  rcases Nat.eq_or_lt_of_le h1 with rfl | h1
  · exact c
  · exact h hr j h1 h2
theorem rising_loops (v : List Int) (hv : v.length ≤ 1048576) : ∃ r, Ev (fun k => spec_l4Rising.l0 k v ((0 : Nat) : Int)) r ∧ Ev (fun k => impl_rising.l0 k v v (v.length : Int) ((0 : Nat) : Int)) r ∧ (r = true → ∀ j, 0 ≤ j → j < v.length → okR v j) := by
  refine down (P := fun i => ∃ r, Ev (fun k => spec_l4Rising.l0 k v (i : Int)) r ∧ Ev (fun k => impl_rising.l0 k v v (v.length : Int) (i : Int)) r ∧ (r = true → ∀ j, i ≤ j → j < v.length → okR v j)) v.length ?_ ?_
  · exact ⟨true, Ev.step (f := fun _ => some true) (fun k => by simp only [spec_l4Rising.l0]; rw [if_neg (by omega)]) (Ev.now _), Ev.step (f := fun _ => some true) (fun k => by simp only [impl_rising.l0]; rw [if_neg (by omega)]) (Ev.now _), fun _ j h1 h2 => by omega⟩
  · intro i hi ⟨r, h1, h2, h3⟩
    have hw : wrap64 ((i : Int) + 1) = ((i + 1 : Nat) : Int) := by rw [w64 (by omega) (by omega)]; rfl
    have hw1 : wrap64 ((i : Int) - 1) = (i : Int) - 1 := by rw [w64 (by omega) (by omega)]
    by_cases g : 0 ≤ rd v (i : Int) ∧ rd v (i : Int) < 2048
    · by_cases z : (i : Int) > 0
      · by_cases c : rd v ((i : Int) - 1) ≥ rd v (i : Int)
        · refine ⟨false, Ev.step (f := fun _ => some false) (fun k => ?_) (Ev.now _), Ev.step (f := fun _ => some false) (fun k => ?_) (Ev.now _), by simp⟩
          · simp only [spec_l4Rising.l0, spec_l3GoodBlock.f]
            rw [if_pos (by omega), if_pos (by omega), if_pos g.1, Option.bind_some, if_pos (by simp; omega), if_pos z, hw1, if_pos (by omega), if_pos (by omega), if_pos c]
          · simp only [impl_rising.l0, impl_in.f]
            rw [if_pos (by omega), if_pos (by omega), if_pos (by omega), if_pos g.1, Option.bind_some, if_pos (by simp; omega), if_pos z, hw1, if_pos (by omega), if_pos (by omega), if_pos c]
        · refine ⟨r, Ev.step (fun k => ?_) h1, Ev.step (fun k => ?_) h2, okR_step v i r ⟨g.1, g.2, fun _ => by omega⟩ h3⟩
          · simp only [spec_l4Rising.l0, spec_l3GoodBlock.f]
            rw [if_pos (by omega), if_pos (by omega), if_pos g.1, Option.bind_some, if_pos (by simp; omega), if_pos z, hw1, if_pos (by omega), if_pos (by omega), if_neg c, hw]
          · simp only [impl_rising.l0, impl_in.f]
            rw [if_pos (by omega), if_pos (by omega), if_pos (by omega), if_pos g.1, Option.bind_some, if_pos (by simp; omega), if_pos z, hw1, if_pos (by omega), if_pos (by omega), if_neg c, hw]
      · refine ⟨r, Ev.step (fun k => ?_) h1, Ev.step (fun k => ?_) h2, okR_step v i r ⟨g.1, g.2, fun _ => by omega⟩ h3⟩
        · simp only [spec_l4Rising.l0, spec_l3GoodBlock.f]
          rw [if_pos (by omega), if_pos (by omega), if_pos g.1, Option.bind_some, if_pos (by simp; omega), if_neg z, hw]
        · simp only [impl_rising.l0, impl_in.f]
          rw [if_pos (by omega), if_pos (by omega), if_pos (by omega), if_pos g.1, Option.bind_some, if_pos (by simp; omega), if_neg z, hw]
    · refine ⟨false, Ev.step (f := fun _ => some false) (fun k => ?_) (Ev.now _), Ev.step (f := fun _ => some false) (fun k => ?_) (Ev.now _), by simp⟩
      · simp only [spec_l4Rising.l0, spec_l3GoodBlock.f]
        rw [if_pos (by omega), if_pos (by omega)]
        by_cases c : rd v (i : Int) ≥ 0
        · rw [if_pos c, Option.bind_some, if_neg (by simp; omega)]
        · rw [if_neg c, Option.bind_some, if_neg (by simp)]
      · simp only [impl_rising.l0, impl_in.f]
        rw [if_pos (by omega), if_pos (by omega), if_pos (by omega)]
        by_cases c : rd v (i : Int) ≥ 0
        · rw [if_pos c, Option.bind_some, if_neg (by simp; omega)]
        · rw [if_neg c, Option.bind_some, if_neg (by simp)]
theorem rising_ev (v : List Int) (hv : v.length ≤ 1048576) : ∃ r, Ev (fun k => spec_l4Rising.f k v) r ∧ Ev (fun k => impl_rising.f k v) r ∧ (r = true → ∀ j, j < v.length → okR v j) := by
  obtain ⟨r, h1, h2, h3⟩ := rising_loops v hv
  exact ⟨r, h1, h2, fun hr j hj => h3 hr j (Nat.zero_le j) hj⟩
theorem blocks_ev (l : List S61) (hl : l.length ≤ 1048576) : Ev (fun k => spec_l4HomeBlocks.f k l) (l.map S61.f0) := by
  have := down (P := fun i => Ev (fun k => spec_l4HomeBlocks.l0 k l ((l.take i).map S61.f0) (i : Int)) (l.map S61.f0)) l.length ?_ ?_
  · simpa [spec_l4HomeBlocks.f] using this
  · rw [List.take_length]
    exact Ev.step (f := fun _ => some (l.map S61.f0)) (fun k => by simp only [spec_l4HomeBlocks.l0]; rw [if_neg (by omega)]) (Ev.now _)
  · intro i hi h
    rw [List.take_succ_eq_append_getElem hi, List.map_append] at h
    exact Ev.step (fun k => by simp only [spec_l4HomeBlocks.l0]; rw [if_pos (by omega), if_pos (by omega), if_pos (by simp; omega), rd62 l i hi, w64 (by omega) (by omega)]; rfl) h
def pass (v : List Int) (h : S61) : Bool := decide (h.f1.length = 64) && !decide (h.f0 ∈ v)
theorem spec_pass (a : Int) (l : List S61) (v : List Int) (hl : l.length ≤ 1048576) (hv : v.length ≤ 1048576) : Ev (fun k => spec_ValidTxn.l0 k ((0 : Nat) : Int) a l v) ((l.drop 0).all (pass v)) := by
  refine down (P := fun i => Ev (fun k => spec_ValidTxn.l0 k (i : Int) a l v) ((l.drop i).all (pass v))) l.length ?_ ?_
  · rw [List.drop_length]
    exact Ev.step (f := fun _ => some true) (fun k => by simp only [spec_ValidTxn.l0]; rw [if_neg (by omega)]) (Ev.now _)
  · intro i hi h
    have hw : wrap64 ((i : Int) + 1) = ((i + 1 : Nat) : Int) := by rw [w64 (by omega) (by omega)]; rfl
    rw [List.drop_eq_getElem_cons hi, List.all_cons]
    by_cases c : l[i].f1.length = 64
    · refine Ev.step (f := fun k => (spec_l4Has.f k v l[i].f0).bind fun t => if t = true then some false else spec_ValidTxn.l0 k ((i + 1 : Nat) : Int) a l v) (fun k => ?_) ?_
      · simp only [spec_ValidTxn.l0]
        rw [if_pos (by omega), if_pos (by omega), rd62 l i hi, if_pos (by omega), hw]
      · refine (has_ev v _ hv).bind ?_
        by_cases d : l[i].f0 ∈ v
        · have e : (pass v l[i] && (l.drop (i + 1)).all (pass v)) = false := by simp [pass, d]
          rw [e]; exact Ev.congr (fun k => if_pos (by simpa using d)) (Ev.now _)
        · have e : (pass v l[i] && (l.drop (i + 1)).all (pass v)) = (l.drop (i + 1)).all (pass v) := by simp [pass, d, c]
          rw [e]; exact Ev.congr (fun k => if_neg (by simpa using d)) h
    · have e : (pass v l[i] && (l.drop (i + 1)).all (pass v)) = false := by simp [pass, c]
      rw [e]
      exact Ev.step (f := fun _ => some false) (fun k => by simp only [spec_ValidTxn.l0]; rw [if_pos (by omega), if_pos (by omega), rd62 l i hi, if_neg (by omega)]) (Ev.now _)
theorem impl_in_loop (a : Int) (l : List S61) (v : List Int) (x4 : List Int) (j : Int) (b : Int) (d : List Int) (r : Bool) (hv : v.length ≤ 1048576) (h4 : x4.length ≤ 1048576)
    (h1 : b ∈ v → r = false) (h2 : b ∉ v → Ev (fun k => impl_ValidTxn.l0 k (x4 ++ [b]) l (l.length : Int) (wrap64 (j + 1)) a l v) r) :
    Ev (fun k => impl_ValidTxn.l1 k x4 l (l.length : Int) j v (v.length : Int) ((0 : Nat) : Int) a l v b d) r := by
  have := down (P := fun i => (b ∈ v.drop i → r = false) → (b ∉ v.drop i → Ev (fun k => impl_ValidTxn.l0 k (x4 ++ [b]) l (l.length : Int) (wrap64 (j + 1)) a l v) r) → Ev (fun k => impl_ValidTxn.l1 k x4 l (l.length : Int) j v (v.length : Int) (i : Int) a l v b d) r) v.length ?_ ?_
  · exact this h1 h2
  · intro _ h
    rw [List.drop_length] at h
    exact Ev.step (fun k => by simp only [impl_ValidTxn.l1]; rw [if_neg (by omega), if_pos (by omega)]) (h (by simp))
  · intro i hi ih h1 h2
    have hw : wrap64 ((i : Int) + 1) = ((i + 1 : Nat) : Int) := by rw [w64 (by omega) (by omega)]; rfl
    rw [List.drop_eq_getElem_cons hi] at h1 h2
    by_cases c : v[i] = b
    · rw [h1 (by rw [c]; exact List.mem_cons_self)]
      exact Ev.step (f := fun _ => some false) (fun k => by simp only [impl_ValidTxn.l1]; rw [if_pos (by omega), if_pos (by omega), if_pos (by omega), rd_nat v i hi, if_pos c]) (Ev.now _)
    · refine Ev.step (fun k => by simp only [impl_ValidTxn.l1]; rw [if_pos (by omega), if_pos (by omega), if_pos (by omega), rd_nat v i hi, if_neg c, hw]) (ih (fun h => h1 (List.mem_cons_of_mem _ h)) (fun h => h2 (fun h' => ?_)))
      rcases List.mem_cons.1 h' with h' | h'
      · exact c h'.symm
      · exact h h'
theorem impl_pass (a : Int) (l : List S61) (v : List Int) (rH : Bool) (hH : Ev (fun k => impl_rising.f k (l.map S61.f0)) rH) (hl : l.length ≤ 1048576) (hv : v.length ≤ 1048576) :
    Ev (fun k => impl_ValidTxn.l0 k [] l (l.length : Int) 0 a l v) (rH && l.all (pass v)) := by
  have := down (P := fun i => Ev (fun k => impl_ValidTxn.l0 k ((l.take i).map S61.f0) l (l.length : Int) (i : Int) a l v) (rH && (l.drop i).all (pass v))) l.length ?_ ?_
  · simpa using this
  · rw [List.drop_length, List.take_length]
    refine Ev.step (f := fun k => (impl_rising.f k (l.map S61.f0)).bind fun t => some t) (fun k => by simp only [impl_ValidTxn.l0]; rw [if_neg (by omega)]) ?_
    refine hH.bind ?_
    simpa using Ev.now (rH)
  · intro i hi h
    have hw : wrap64 ((i : Int) + 1) = ((i + 1 : Nat) : Int) := by rw [w64 (by omega) (by omega)]; rfl
    rw [List.drop_eq_getElem_cons hi, List.all_cons]
    by_cases c : l[i].f1.length = 64
    · refine Ev.step (f := fun k => impl_ValidTxn.l1 k ((l.take i).map S61.f0) l (l.length : Int) (i : Int) v (v.length : Int) 0 a l v l[i].f0 l[i].f1) (fun k => ?_) ?_
      · simp only [impl_ValidTxn.l0]
        rw [if_pos (by omega), if_pos (by omega), if_pos (by omega), rd62 l i hi, if_pos (by omega)]
      · refine impl_in_loop a l v _ (i : Int) _ _ _ hv (by simp; omega) (fun d => by simp [pass, d]) (fun d => ?_)
        have e : (rH && (pass v l[i] && (l.drop (i + 1)).all (pass v))) = (rH && (l.drop (i + 1)).all (pass v)) := by simp [pass, d, c]
        rw [e, hw]
        rw [List.take_succ_eq_append_getElem hi, List.map_append] at h
        exact h
    · have e : (rH && (pass v l[i] && (l.drop (i + 1)).all (pass v))) = false := by simp [pass, c]
      rw [e]
      exact Ev.step (f := fun _ => some false) (fun k => by simp only [impl_ValidTxn.l0]; rw [if_pos (by omega), if_pos (by omega), if_pos (by omega), rd62 l i hi, if_neg (by omega)]) (Ev.now _)
theorem both (a : Int) (l : List S61) (v : List Int) (hl : l.length ≤ 1048576) (hv : v.length ≤ 1048576) : ∃ r, Ev (fun k => spec_ValidTxn.f k a l v) r ∧ Ev (fun k => impl_ValidTxn.f k a l v) r ∧ (r = true → 1 ≤ a ∧ a ≤ 4294967295 ∧ 1 ≤ l.length + v.length ∧ l.length + v.length ≤ 128 ∧ l.all (pass v) = true ∧ (∀ j, j < v.length → okR v j) ∧ (∀ j, j < l.length → okR (l.map S61.f0) j)) := by
  have hn : wrap64 ((l.length : Int) + (v.length : Int)) = (l.length : Int) + (v.length : Int) := w64 (by omega) (by omega)
  have sf : Ev (fun k => spec_ValidTxn.j0 k true a l v) false := Ev.step (f := fun _ => some false) (fun k => by simp only [spec_ValidTxn.j0]; rw [if_pos trivial]) (Ev.now _)
  have jf : Ev (fun k => impl_ValidTxn.j0 k true a l v) false := Ev.step (f := fun _ => some false) (fun k => by simp only [impl_ValidTxn.j0]; rw [if_pos trivial]) (Ev.now _)
  by_cases hg : 1 ≤ a ∧ a ≤ 4294967295
  · have sg : spec_l3GoodSeq.f a = some true := by unfold spec_l3GoodSeq.f; rw [if_pos hg.1]; simp [hg.2]
    have ig : impl_in.f a 1 4294967295 = some true := by unfold impl_in.f; rw [if_pos hg.1]; simp [hg.2]
    by_cases c1 : (l.length : Int) + (v.length : Int) < 1
    · refine ⟨false, Ev.congr (fun k => by unfold spec_ValidTxn.f; rw [sg, Option.bind_some, if_pos rfl, hn, if_pos c1]) sf, Ev.congr (fun k => by unfold impl_ValidTxn.f; rw [hn, if_pos c1]) jf, by simp⟩
    · by_cases c2 : (l.length : Int) + (v.length : Int) > 128
      · refine ⟨false, Ev.congr (fun k => by unfold spec_ValidTxn.f; rw [sg, Option.bind_some, if_pos rfl, hn, if_neg c1, decide_eq_true c2]) sf, Ev.congr (fun k => by unfold impl_ValidTxn.f; rw [hn, if_neg c1, if_pos c2]) jf, by simp⟩
      · obtain ⟨rR, s1, i1, o1⟩ := rising_ev v hv
        obtain ⟨rH, s2, i2, o2⟩ := rising_ev (l.map S61.f0) (by simpa using hl)
        refine ⟨rR && (rH && l.all (pass v)), ?_, ?_, ?_⟩
        · refine Ev.congr (fun k => by unfold spec_ValidTxn.f; rw [sg, Option.bind_some, if_pos rfl, hn, if_neg c1, decide_eq_false c2]) ?_
          refine Ev.step (fun k => by simp only [spec_ValidTxn.j0]; rw [if_neg (by decide)]) ?_
          refine (blocks_ev l hl).bind ?_
          refine s2.bind ?_
          refine s1.bind ?_
          cases rH with
          | true =>
            refine Ev.congr (fun k => if_pos rfl) ?_
            cases rR with
            | true =>
              refine Ev.step (fun k => by simp only [spec_ValidTxn.j1]; rw [if_neg (by decide)]) ?_
              simpa using spec_pass a l v hl hv
            | false => exact Ev.step (f := fun _ => some false) (fun k => by simp only [spec_ValidTxn.j1]; rw [if_pos (by decide)]) (by simpa using Ev.now false)
          | false =>
            refine Ev.congr (fun k => if_neg (by decide)) ?_
            exact Ev.step (f := fun _ => some false) (fun k => by simp only [spec_ValidTxn.j1]; rw [if_pos (by decide)]) (by simpa using Ev.now false)
        · refine Ev.congr (fun k => by unfold impl_ValidTxn.f; rw [hn, if_neg c1, if_neg c2, ig, Option.bind_some, if_pos rfl]) ?_
          refine i1.bind ?_
          cases rR with
          | true =>
            refine Ev.step (fun k => by simp only [impl_ValidTxn.j0]; rw [if_neg (by decide)]) ?_
            simpa using impl_pass a l v rH i2 hl hv
          | false => exact Ev.step (f := fun _ => some false) (fun k => by simp only [impl_ValidTxn.j0]; rw [if_pos (by decide)]) (by simpa using Ev.now false)
        · intro h
          simp only [Bool.and_eq_true] at h
          exact ⟨hg.1, hg.2, by omega, by omega, h.2.2, o1 h.1, fun j hj => o2 h.2.1 j (by simpa using hj)⟩
  · have sg : spec_l3GoodSeq.f a = some false := by
      unfold spec_l3GoodSeq.f
      by_cases c : a ≥ 1
      · rw [if_pos c]; simp; omega
      · rw [if_neg c]
    have ig : impl_in.f a 1 4294967295 = some false := by
      unfold impl_in.f
      by_cases c : a ≥ 1
      · rw [if_pos c]; simp; omega
      · rw [if_neg c]
    refine ⟨false, Ev.congr (fun k => by unfold spec_ValidTxn.f; rw [sg, Option.bind_some, if_neg (by decide)]) sf, ?_, by simp⟩
    by_cases c1 : (l.length : Int) + (v.length : Int) < 1
    · exact Ev.congr (fun k => by unfold impl_ValidTxn.f; rw [hn, if_pos c1]) jf
    · by_cases c2 : (l.length : Int) + (v.length : Int) > 128
      · exact Ev.congr (fun k => by unfold impl_ValidTxn.f; rw [hn, if_neg c1, if_pos c2]) jf
      · exact Ev.congr (fun k => by unfold impl_ValidTxn.f; rw [hn, if_neg c1, if_neg c2, ig, Option.bind_some, if_neg (by decide)]) jf
/-- n bytes of v, the greatest first. -/
def be : Nat → Int → List Int
  | 0, _ => []
  | n + 1, v => be n (v / 256) ++ [v % 256]
theorem be_len : ∀ (n : Nat) (v : Int), (be n v).length = n
  | 0, _ => rfl
  | n + 1, v => by simp [be, be_len n]
/-- What both say. -/
def putOf (v n : Int) : List Int := if n < 1 ∨ n > 8 ∨ v < 0 ∨ v / 256 ^ n.toNat > 0 then [] else be n.toNat v
theorem putOf_len (v n : Int) : (putOf v n).length ≤ 8 := by
  unfold putOf; split
  · simp
  · rw [be_len]; omega
theorem div_pow (v : Int) (d : Nat) : v / 256 / 256 ^ d = v / 256 ^ (d + 1) := by
  rw [Int.ediv_ediv_of_nonneg (by omega), Int.pow_succ, Int.mul_comm]
theorem putSpec_loop (n : Int) (hn : n ≤ 8) (d : Nat) : ∀ (v : Int) (i : Nat) (out : List Int), 0 ≤ v → v ≤ 9223372036854775807 → (i : Int) + d = n → out.length = i →
    Ev (fun k => spec_PutNumber.l0 k v n out (i : Int)) (if v / 256 ^ d > 0 then [] else be d v ++ out) := by
  induction d with
  | zero =>
    intro v i out h0 h1 hi hl
    refine Ev.step (f := fun _ => some (if v / 256 ^ 0 > 0 then [] else be 0 v ++ out)) (fun k => ?_) (Ev.now _)
    simp only [spec_PutNumber.l0]
    rw [if_neg (by omega), show v / 256 ^ 0 = v by simp]
    by_cases h : v > 0
    · rw [if_pos h, if_pos h]
    · rw [if_neg h, if_neg h]; rfl
  | succ d ih =>
    intro v i out h0 h1 hi hl
    have h := ih (v / 256) (i + 1) ([v % 256] ++ out) (by omega) (by omega) (by omega) (by simp only [List.length_append, List.length_cons, List.length_nil]; omega)
    rw [div_pow] at h
    refine Ev.step (f := fun k => spec_PutNumber.l0 k (v / 256) n ([v % 256] ++ out) ((i + 1 : Nat) : Int)) (fun k => ?_) ?_
    · simp only [spec_PutNumber.l0, Option.bind_some]
      rw [if_pos (by omega), if_pos (by simp [hl]; omega), Int.tmod_eq_emod_of_nonneg h0, Int.tdiv_eq_ediv_of_nonneg h0, w64 (by omega) (by omega), w64 (by omega) (by omega), show v % 256 % 256 = v % 256 by omega]; rfl
    · rwa [show be (d + 1) v ++ out = be d (v / 256) ++ ([v % 256] ++ out) by simp [be]]
theorem putSpec_ev (v n : Int) (hv : v ≤ 9223372036854775807) : Ev (fun k => spec_PutNumber.f k v n) (putOf v n) := by
  have hj : ∀ k b, spec_PutNumber.j0 (k + 1) v n b = if b = true then (some (([] : List Int))) else (spec_PutNumber.l0 k v n (([] : List Int)) 0) := fun _ _ => rfl
  by_cases c1 : n < 1
  · have : putOf v n = [] := by unfold putOf; rw [if_pos (.inl c1)]
    rw [this]
    exact Ev.step (f := fun _ => some []) (fun k => by unfold spec_PutNumber.f; rw [if_pos c1, hj, if_pos rfl]) (Ev.now _)
  by_cases c2 : n > 8
  · have : putOf v n = [] := by unfold putOf; rw [if_pos (.inr (.inl c2))]
    rw [this]
    exact Ev.step (f := fun _ => some []) (fun k => by unfold spec_PutNumber.f; rw [if_neg c1, if_pos c2, hj, if_pos rfl]) (Ev.now _)
  by_cases c3 : v < 0
  · have : putOf v n = [] := by unfold putOf; rw [if_pos (.inr (.inr (.inl c3)))]
    rw [this]
    exact Ev.step (f := fun _ => some []) (fun k => by unfold spec_PutNumber.f; rw [if_neg c1, if_neg c2, hj, if_pos (decide_eq_true c3)]) (Ev.now _)
  have h := putSpec_loop n (by omega) n.toNat v 0 [] (by omega) hv (by omega) rfl
  have e : putOf v n = if v / 256 ^ n.toNat > 0 then [] else be n.toNat v ++ [] := by
    unfold putOf
    by_cases c : v / 256 ^ n.toNat > 0
    · rw [if_pos (.inr (.inr (.inr c))), if_pos c]
    · rw [if_neg (by omega), if_neg c]; simp
  rw [e]
  exact Ev.step (fun k => by unfold spec_PutNumber.f; rw [if_neg c1, if_neg c2, hj, if_neg (by simpa using c3)]) (show Ev (fun k => spec_PutNumber.l0 k v n [] 0) _ from h)
theorem put2 (v : Int) (h0 : 0 ≤ v) (h1 : v < 65536) : Ev (fun k => spec_PutNumber.f k v 2) (be 2 v) := by
  have := putSpec_ev v 2 (by omega)
  rwa [show putOf v 2 = be 2 v by unfold putOf; rw [if_neg (by simp; omega)]; rfl] at this
theorem put4 (v : Int) (h0 : 0 ≤ v) (h1 : v ≤ 4294967295) : Ev (fun k => spec_PutNumber.f k v 4) (be 4 v) := by
  have := putSpec_ev v 4 (by omega)
  rwa [show putOf v 4 = be 4 v by unfold putOf; rw [if_neg (by simp; omega)]; rfl] at this
theorem join (a b : List Int) (ha : a.length ≤ 1048576) (hb : b.length ≤ 1048576) : spec_l2Join.f a b = some (a ++ b) := by
  unfold spec_l2Join.f spec_l1Copy.f
  rw [Option.bind_some, if_pos (by simp; omega), Option.bind_some, List.nil_append, if_pos (by omega)]
theorem zero (n : Int) (h0 : 0 ≤ n) (h1 : n ≤ 1048576) : spec_l2Zero.f n = some (List.replicate n.toNat 0) := by
  unfold spec_l2Zero.f
  rw [if_pos h0, if_pos (by omega)]
theorem pad (l : List Int) (h : l.length ≤ 64) : ∃ r, spec_l3Pad.f l = some r ∧ r.length = 64 := by
  unfold spec_l3Pad.f
  rw [w64 (by omega) (by omega), zero _ (by omega) (by omega), Option.bind_some, join _ _ (by omega) (by simp; omega), Option.bind_some]
  exact ⟨_, rfl, by simp; omega⟩
theorem head_ev (kd n s : Int) (hn : 0 ≤ n ∧ n < 65536) (hs : 0 ≤ s ∧ s ≤ 4294967295) : ∃ r, Ev (fun k => spec_l3Head.f k kd n s) r ∧ r.length = 12 := by
  refine ⟨(([106, 108, 111, 103] ++ [kd % 256, 0]) ++ be 2 n) ++ be 4 s, ?_, by simp [be_len]⟩
  refine Ev.congr (fun k => by unfold spec_l3Head.f spec_l3Magic.f; simp only [Option.bind_some]; rw [if_pos (by simp)]) ?_
  refine (put2 n hn.1 hn.2).bind ?_
  refine Ev.congr (fun k => if_pos (by simp [be_len])) ?_
  refine (put4 s hs.1 hs.2).bind ?_
  exact Ev.congr (fun k => if_pos (by simp [be_len])) (Ev.now _)
theorem good_seq (s : Int) (h : 1 ≤ s ∧ s ≤ 4294967295) : spec_l3GoodSeq.f s = some true := by
  unfold spec_l3GoodSeq.f; rw [if_pos h.1, decide_eq_true h.2]
theorem good_block (b : Int) (h : 0 ≤ b ∧ b < 2048) : spec_l3GoodBlock.f b = some true := by
  unfold spec_l3GoodBlock.f; rw [if_pos h.1, decide_eq_true h.2]
theorem revoke_loop (s : Int) (v : List Int) (h2 : v.length ≤ 26) (ok : ∀ j, j < v.length → okR v j) (d : Nat) : ∀ (i : Nat) (acc : List Int), i + d = v.length → acc.length = 12 + 2 * i →
    ∃ r, Ev (fun k => spec_EncodeRevoke.l0 k (v.length : Int) acc (i : Int) s v) r ∧ r.length = 64 := by
  induction d with
  | zero =>
    intro i acc hi ha
    obtain ⟨r, h, hr⟩ := pad acc (by omega)
    exact ⟨r, Ev.step (f := fun _ => some r) (fun k => by simp only [spec_EncodeRevoke.l0]; rw [if_neg (by omega), h, Option.bind_some]) (Ev.now _), hr⟩
  | succ d ih =>
    intro i acc hi ha
    obtain ⟨o1, o2, o3⟩ := ok i (by omega)
    have hw : wrap64 ((i : Int) + 1) = ((i + 1 : Nat) : Int) := by rw [w64 (by omega) (by omega)]; rfl
    have hw1 : wrap64 ((i : Int) - 1) = (i : Int) - 1 := w64 (by omega) (by omega)
    obtain ⟨r, h, hr⟩ := ih (i + 1) (acc ++ be 2 (rd v (i : Int))) (by omega) (by rw [List.length_append, be_len]; omega)
    refine ⟨r, ?_, hr⟩
    refine Ev.step (f := fun k => (spec_PutNumber.f k (rd v (i : Int)) 2).bind fun t => (if acc.length + t.length < 140737488355328 then (spec_EncodeRevoke.l0 k (v.length : Int) (acc ++ t) ((i + 1 : Nat) : Int) s v) else (none))) (fun k => ?_) ?_
    · simp only [spec_EncodeRevoke.l0]
      rw [if_pos (by omega), if_pos (by omega), if_pos (by omega), good_block _ ⟨o1, o2⟩, Option.bind_some, if_pos rfl, hw, hw1]
      by_cases z : (i : Int) > 0
      · rw [if_pos z, if_pos (by omega), if_pos (by omega), if_neg (by have := o3 (by omega); omega)]
      · rw [if_neg z]
    · refine (put2 _ o1 (by omega)).bind ?_
      exact Ev.congr (fun k => if_pos (by rw [be_len]; omega)) h
theorem revoke_ev (s : Int) (v : List Int) (hs : 1 ≤ s ∧ s ≤ 4294967295) (h1 : 1 ≤ v.length) (h2 : v.length ≤ 26) (ok : ∀ j, j < v.length → okR v j) : ∃ r, Ev (fun k => spec_EncodeRevoke.f k s v) r ∧ r.length = 64 := by
  obtain ⟨hd, e1, e2⟩ := head_ev 3 (v.length : Int) s (by omega) (by omega)
  obtain ⟨r, e3, e4⟩ := revoke_loop s v h2 ok v.length 0 hd (by omega) (by omega)
  refine ⟨r, ?_, e4⟩
  refine Ev.congr (fun k => by unfold spec_EncodeRevoke.f; rw [good_seq s hs, Option.bind_some, if_pos rfl, if_neg (by omega), decide_eq_false (by omega)]) ?_
  refine Ev.step (f := fun k => (spec_l3Head.f k 3 (v.length : Int) s).bind fun t => spec_EncodeRevoke.l0 k (v.length : Int) t 0 s v) (fun k => by simp only [spec_EncodeRevoke.j0]; rw [if_neg (by decide)]) ?_
  exact e1.bind e3
def okT (t : List S101) (j : Nat) : Prop := 0 ≤ (rd_T101 t (j : Int)).f0 ∧ (rd_T101 t (j : Int)).f0 < 2048 ∧ (0 < j → (rd_T101 t ((j : Int) - 1)).f0 < (rd_T101 t (j : Int)).f0)
theorem desc_loop (s : Int) (v : List S101) (h2 : v.length ≤ 17) (ok : ∀ j, j < v.length → okT v j) (d : Nat) : ∀ (i : Nat) (acc : List Int), i + d = v.length → acc.length = 12 + 3 * i →
    ∃ r, Ev (fun k => spec_EncodeDescriptor.l0 k (v.length : Int) acc (i : Int) s v) r ∧ r.length = 64 := by
  induction d with
  | zero =>
    intro i acc hi ha
    obtain ⟨r, h, hr⟩ := pad acc (by omega)
    exact ⟨r, Ev.step (f := fun _ => some r) (fun k => by simp only [spec_EncodeDescriptor.l0]; rw [if_neg (by omega), h, Option.bind_some]) (Ev.now _), hr⟩
  | succ d ih =>
    intro i acc hi ha
    obtain ⟨o1, o2, o3⟩ := ok i (by omega)
    have hw : wrap64 ((i : Int) + 1) = ((i + 1 : Nat) : Int) := by rw [w64 (by omega) (by omega)]; rfl
    have hw1 : wrap64 ((i : Int) - 1) = (i : Int) - 1 := w64 (by omega) (by omega)
    obtain ⟨r, h, hr⟩ := ih (i + 1) (acc ++ be 2 (rd_T101 v (i : Int)).f0 ++ [if (rd_T101 v (i : Int)).f1 = true then 1 else 0]) (by omega) (by simp [be_len]; omega)
    refine ⟨r, ?_, hr⟩
    refine Ev.step (f := fun k => spec_EncodeDescriptor.j2 k (v.length : Int) acc (i : Int) false s v) (fun k => ?_) ?_
    · simp only [spec_EncodeDescriptor.l0]
      rw [if_pos (by omega), if_pos (by omega), if_pos (by omega), good_block _ ⟨o1, o2⟩, Option.bind_some, if_pos rfl, hw1]
      by_cases z : (i : Int) > 0
      · rw [if_pos z, if_pos (by omega), if_pos (by omega), decide_eq_false (by have := o3 (by omega); omega)]
      · rw [if_neg z]
    · refine Ev.step (f := fun k => (spec_PutNumber.f k (rd_T101 v (i : Int)).f0 2).bind fun t => (if acc.length + t.length < 140737488355328 then (if (rd_T101 v (i : Int)).f1 = true then (if (acc ++ t).length < 140737488355328 then (spec_EncodeDescriptor.l0 k (v.length : Int) ((acc ++ t) ++ [1]) ((i + 1 : Nat) : Int) s v) else none) else (if (acc ++ t).length < 140737488355328 then (spec_EncodeDescriptor.l0 k (v.length : Int) ((acc ++ t) ++ [0]) ((i + 1 : Nat) : Int) s v) else none)) else (none))) (fun k => ?_) ?_
      · simp only [spec_EncodeDescriptor.j2, Option.bind_some]
        rw [if_neg (by decide), if_pos (by omega), if_pos (by omega), hw]
      · refine (put2 _ o1 (by omega)).bind ?_
        refine Ev.congr (fun k => if_pos (by rw [be_len]; omega)) ?_
        by_cases c : (rd_T101 v (i : Int)).f1 = true
        · rw [if_pos c] at h
          exact Ev.congr (fun k => by rw [if_pos c, if_pos (by simp [be_len]; omega)]) h
        · rw [if_neg c] at h
          exact Ev.congr (fun k => by rw [if_neg c, if_pos (by simp [be_len]; omega)]) h
theorem desc_ev (s : Int) (v : List S101) (hs : 1 ≤ s ∧ s ≤ 4294967295) (h1 : 1 ≤ v.length) (h2 : v.length ≤ 17) (ok : ∀ j, j < v.length → okT v j) : ∃ r, Ev (fun k => spec_EncodeDescriptor.f k s v) r ∧ r.length = 64 := by
  obtain ⟨hd, e1, e2⟩ := head_ev 2 (v.length : Int) s (by omega) (by omega)
  obtain ⟨r, e3, e4⟩ := desc_loop s v h2 ok v.length 0 hd (by omega) (by omega)
  refine ⟨r, ?_, e4⟩
  refine Ev.congr (fun k => by unfold spec_EncodeDescriptor.f; rw [good_seq s hs, Option.bind_some, if_pos rfl, if_neg (by omega), decide_eq_false (by omega)]) ?_
  refine Ev.step (f := fun k => (spec_l3Head.f k 2 (v.length : Int) s).bind fun t => spec_EncodeDescriptor.l0 k (v.length : Int) t 0 s v) (fun k => by simp only [spec_EncodeDescriptor.j0]; rw [if_neg (by decide)]) ?_
  exact e1.bind e3
theorem escape_ev (d : List Int) (h : d.length = 64) : ∃ r b, spec_Escape.f d = some (true, r, b) ∧ r.length = 64 := by
  unfold spec_Escape.f spec_l3Begins.f spec_l3Magic.f spec_l2Same.f
  rw [if_pos (by omega), if_pos (by omega), if_pos (by omega)]
  simp only [Option.bind_some]
  split
  · rw [zero 4 (by omega) (by omega), Option.bind_some, if_pos (by omega), join _ _ (by simp) (by simp; omega), Option.bind_some]
    exact ⟨_, _, rfl, by simp; omega⟩
  · unfold spec_l1Copy.f
    rw [Option.bind_some, if_pos (by simp; omega), Option.bind_some]
    exact ⟨_, _, rfl, by simpa using h⟩
theorem rd_drop (v : List Int) (n j : Nat) : rd (v.drop n) (j : Int) = rd v ((n + j : Nat) : Int) := by
  unfold rd
  rw [Int.toNat_natCast, Int.toNat_natCast, List.getD_eq_getElem?_getD, List.getD_eq_getElem?_getD, List.getElem?_drop]
theorem rd_take (v : List Int) (n j : Nat) (h : j < n) : rd (v.take n) (j : Int) = rd v (j : Int) := by
  unfold rd; simp [List.getD_eq_getElem?_getD, h]
theorem okR_drop {v : List Int} {n j : Nat} (h : okR v (n + j)) : okR (v.drop n) j := by
  unfold okR at h ⊢
  rw [rd_drop]
  refine ⟨h.1, h.2.1, fun hj => ?_⟩
  have := h.2.2 (by omega)
  rw [show (j : Int) - 1 = ((j - 1 : Nat) : Int) by omega, rd_drop, show n + (j - 1) = n + j - 1 by omega]
  rw [show ((n + j : Nat) : Int) - 1 = ((n + j - 1 : Nat) : Int) by omega] at this
  exact this
theorem okR_take {v : List Int} {n j : Nat} (hj : j < n) (h : okR v j) : okR (v.take n) j := by
  unfold okR at h ⊢
  rw [rd_take v n j hj]
  refine ⟨h.1, h.2.1, fun h0 => ?_⟩
  have := h.2.2 h0
  rw [show (j : Int) - 1 = ((j - 1 : Nat) : Int) by omega] at this ⊢
  rw [rd_take v n _ (by omega)]; exact this
theorem rd100 (t : List S101) (j : Nat) (h : j < t.length) : (rd_T101 t (j : Int)).f0 = rd (t.map S101.f0) (j : Int) := by
  rw [rd_nat _ j (by simpa using h)]; simp [rd_T101, h]
theorem okT_of {t : List S101} {j : Nat} (hj : j < t.length) (h : okR (t.map S101.f0) j) : okT t j := by
  unfold okT
  unfold okR at h
  rw [rd100 t j hj]
  refine ⟨h.1, h.2.1, fun h0 => ?_⟩
  have := h.2.2 h0
  rw [show (j : Int) - 1 = ((j - 1 : Nat) : Int) by omega] at this ⊢
  rw [rd100 t _ (by omega)]; exact this
/-- One group of homes. -/
theorem group (s : Int) (hs : 1 ≤ s ∧ s ≤ 4294967295) (hm : List S61) (m : Nat) (h1 : 1 ≤ m) (h2 : m ≤ 17) (hl : m ≤ hm.length) (hb : hm.length ≤ 1048576) (d64 : ∀ y ∈ hm, y.f1.length = 64) (ok : ∀ j, j < hm.length → okR (hm.map S61.f0) j)
    (rest : List Int) (hr : Ev (fun k => spec_l4Body.f k s (hm.drop m) []) rest) (hrl : rest.length ≤ 524288) (rv : List Int) (d : Nat) :
    ∀ (i : Nat) (acc : List Int) (tg : List S101), i + d = m → acc.length = 64 * i → tg.map S101.f0 = (hm.map S61.f0).take i →
    ∃ r, Ev (fun k => spec_l4Body.l0 k (m : Int) acc (i : Int) s hm rv s tg) r ∧ r.length = 64 + 64 * m + rest.length := by
  induction d with
  | zero =>
    intro i acc tg hi ha ht
    have htl : tg.length = i := by
      have := congrArg List.length ht
      simpa [show min i hm.length = i by omega] using this
    have hok : ∀ j, j < tg.length → okT tg j := fun j hj => okT_of hj (by rw [ht]; exact okR_take (by omega) (ok j (by omega)))
    obtain ⟨r, e1, e2⟩ := desc_ev s tg hs (by omega) (by omega) hok
    refine ⟨(r ++ acc) ++ rest, ?_, by simp; omega⟩
    refine Ev.step (f := fun k => (spec_EncodeDescriptor.f k s tg).bind fun t => (spec_l2Join.f t acc).bind fun t358 => ((spec_l4Body.f k s (hm.drop m) []).bind fun t365 => ((spec_l2Join.f t358 t365).bind fun t368 => (some t368)))) (fun k => ?_) ?_
    · simp only [spec_l4Body.l0]
      rw [if_neg (by omega)]
      simp only [show (0 : Int) ≤ (m : Int) by omega, show (m : Int) ≤ (hm.length : Int) by omega, if_true, Int.toNat_natCast]
    · refine e1.bind ?_
      refine Ev.congr (fun k => by rw [join r acc (by omega) (by omega), Option.bind_some]) ?_
      refine hr.bind ?_
      exact Ev.congr (fun k => by rw [join _ rest (by simp; omega) (by omega), Option.bind_some]) (Ev.now _)
  | succ d ih =>
    intro i acc tg hi ha ht
    have htl : tg.length = i := by
      have := congrArg List.length ht
      simpa [show min i hm.length = i by omega] using this
    have hi' : i < hm.length := by omega
    have hw : wrap64 ((i : Int) + 1) = ((i + 1 : Nat) : Int) := by rw [w64 (by omega) (by omega)]; rfl
    obtain ⟨x, b, e1, e2⟩ := escape_ev hm[i].f1 (d64 _ (List.getElem_mem _))
    obtain ⟨r, e3, e4⟩ := ih (i + 1) (acc ++ x) (tg ++ [⟨hm[i].f0, b⟩]) (by omega) (by rw [List.length_append]; omega) (by
      rw [List.map_append, ht, List.take_succ_eq_append_getElem (by simpa using hi')]; simp)
    refine ⟨r, Ev.step (fun k => ?_) e3, e4⟩
    simp only [spec_l4Body.l0]
    rw [if_pos (by omega), if_pos (by omega), if_pos (by omega), rd62 hm i hi', e1, Option.bind_some, if_pos (by omega), if_pos (by simp only; omega), hw]
theorem body_homes (s : Int) (hs : 1 ≤ s ∧ s ≤ 4294967295) (m : Nat) : ∀ (hm : List S61), hm.length = m → m ≤ 128 → (∀ y ∈ hm, y.f1.length = 64) → (∀ j, j < hm.length → okR (hm.map S61.f0) j) →
    ∃ r, Ev (fun k => spec_l4Body.f k s hm []) r ∧ r.length = 64 * (m + (m + 16) / 17) := by
  induction m using Nat.strongRecOn with
  | _ m ih =>
    intro hm hl hb d64 ok
    by_cases z : m = 0
    · refine ⟨[], ?_, by subst z; simp⟩
      exact Ev.step (f := fun _ => some []) (fun k => by simp only [spec_l4Body.f]; rw [if_neg (by simp), if_pos (by omega)]) (Ev.now _)
    · obtain ⟨q, hq⟩ : ∃ q : Nat, q = min m 17 := ⟨_, rfl⟩
      have hmn : mn (hm.length : Int) 17 = (q : Int) := by unfold mn; split <;> omega
      obtain ⟨rest, e1, e2⟩ := ih (m - q) (by omega) (hm.drop q) (by rw [List.length_drop]; omega) (by omega) (fun y hy => d64 y (List.mem_of_mem_drop hy)) (fun j hj => by
        rw [List.map_drop]; exact okR_drop (ok (q + j) (by rw [List.length_drop] at hj; omega)))
      obtain ⟨r, e3, e4⟩ := group s hs hm q (by omega) (by omega) (by omega) (by omega) d64 ok rest e1 (by omega) [] q 0 [] [] (by omega) (by simp) (by simp)
      refine ⟨r, Ev.step (fun k => ?_) e3, by omega⟩
      simp only [spec_l4Body.f]
      rw [if_neg (by simp), if_neg (by omega), hmn]; rfl
theorem body_ev (s : Int) (hs : 1 ≤ s ∧ s ≤ 4294967295) (hm : List S61) (hb : hm.length ≤ 128) (d64 : ∀ y ∈ hm, y.f1.length = 64) (ok : ∀ j, j < hm.length → okR (hm.map S61.f0) j) (m : Nat) :
    ∀ (v : List Int), v.length = m → m ≤ 128 → (∀ j, j < v.length → okR v j) → ∃ r, Ev (fun k => spec_l4Body.f k s hm v) r ∧ r.length = 64 * ((m + 25) / 26 + hm.length + (hm.length + 16) / 17) := by
  induction m using Nat.strongRecOn with
  | _ m ih =>
    intro v hl hm2 okv
    by_cases z : m = 0
    · obtain ⟨r, e1, e2⟩ := body_homes s hs hm.length hm rfl hb d64 ok
      have : v = [] := List.eq_nil_of_length_eq_zero (by omega)
      subst this
      exact ⟨r, e1, by rw [e2]; subst z; omega⟩
    · obtain ⟨q, hq⟩ : ∃ q : Nat, q = min m 26 := ⟨_, rfl⟩
      have hmn : mn (v.length : Int) 26 = (q : Int) := by unfold mn; split <;> omega
      obtain ⟨rest, e1, e2⟩ := ih (m - q) (by omega) (v.drop q) (by rw [List.length_drop]; omega) (by omega) (fun j hj => okR_drop (okv (q + j) (by rw [List.length_drop] at hj; omega)))
      obtain ⟨r, e3, e4⟩ := revoke_ev s (v.take q) hs (by rw [List.length_take]; omega) (by rw [List.length_take]; omega) (fun j hj => by
        rw [List.length_take] at hj
        exact okR_take (by omega) (okv j (by omega)))
      refine ⟨r ++ rest, ?_, by rw [List.length_append]; omega⟩
      refine Ev.step (f := fun k => (spec_EncodeRevoke.f k s (v.take q)).bind fun t324 => ((spec_l4Body.f k s hm (v.drop q)).bind fun t328 => ((spec_l2Join.f t324 t328).bind fun t331 => (some t331)))) (fun k => ?_) ?_
      · simp only [spec_l4Body.f]
        rw [if_pos (by omega), hmn, if_pos (by omega), if_pos (by omega), Int.toNat_natCast]
      · refine e3.bind ?_
        refine e1.bind ?_
        exact Ev.congr (fun k => by rw [join r rest (by omega) (by omega), Option.bind_some]) (Ev.now _)
theorem xor_bd (a b : Nat) (ha : a < 2 ^ 32) (hb : b < 2 ^ 32) : 0 ≤ bits .xor .i64 (a : Int) (b : Int) ∧ bits .xor .i64 (a : Int) (b : Int) < 4294967296 := by
  have hx : a ^^^ b < 2 ^ 32 := Nat.xor_lt_two_pow ha hb
  have e : bits .xor .i64 (a : Int) (b : Int) = ((a ^^^ b : Nat) : Int) := by
    show IntKind.i64.wrap ((BitVec.ofInt 64 (a : Int) ^^^ BitVec.ofInt 64 (b : Int)).toNat : Int) = _
    rw [BitVec.toNat_xor, BitVec.ofInt_natCast, BitVec.ofInt_natCast, BitVec.toNat_ofNat, BitVec.toNat_ofNat, Nat.mod_eq_of_lt (by omega), Nat.mod_eq_of_lt (by omega)]
    exact wraps_i64 _ (by omega) (by omega)
  rw [e]; omega
theorem step_ev (a b : Int) (h0 : 0 ≤ a) (h1 : a < 4294967296) : ∃ r, spec_l2Step.f a b = some r ∧ 0 ≤ r ∧ r < 4294967296 := by
  have e : wrap64 (Int.tdiv a 2) = a / 2 := by rw [Int.tdiv_eq_ediv_of_nonneg h0]; exact w64 (by omega) (by omega)
  unfold spec_l2Step.f
  rw [e]
  split
  · obtain ⟨n, rfl⟩ := Int.eq_ofNat_of_zero_le h0
    have := xor_bd (n / 2) 2197175160 (by omega) (by decide)
    refine ⟨_, rfl, ?_⟩
    have e2 : ((n : Int) / 2) = ((n / 2 : Nat) : Int) := by omega
    rw [e2]
    exact this
  · exact ⟨_, rfl, by omega, by omega⟩
theorem reg_in (l : List Int) (i : Int) (nxt : ∀ x, 0 ≤ x → x < 4294967296 → ∃ r, Ev (fun k => spec_l2Reg.l0 k x l (wrap64 (i + 1))) r ∧ 0 ≤ r ∧ r < 4294967296) (d : Nat) : ∀ (j : Nat) (x y : Int), j + d = 8 → 0 ≤ x → x < 4294967296 →
    ∃ r, Ev (fun k => spec_l2Reg.l1 k x l i y (j : Int)) r ∧ 0 ≤ r ∧ r < 4294967296 := by
  induction d with
  | zero =>
    intro j x y hj h0 h1
    obtain ⟨r, h, hr⟩ := nxt x h0 h1
    exact ⟨r, Ev.step (fun k => by simp only [spec_l2Reg.l1]; rw [if_neg (by omega)]) h, hr⟩
  | succ d ih =>
    intro j x y hj h0 h1
    have hw : wrap64 ((j : Int) + 1) = ((j + 1 : Nat) : Int) := by rw [w64 (by omega) (by omega)]; rfl
    obtain ⟨z, e1, e2, e3⟩ := step_ev x (Int.tmod y 2) h0 h1
    obtain ⟨r, h, hr⟩ := ih (j + 1) z (wrap64 (Int.tdiv y 2)) (by omega) e2 e3
    exact ⟨r, Ev.step (fun k => by simp only [spec_l2Reg.l1]; rw [if_pos (by omega), e1, Option.bind_some, hw]) h, hr⟩
theorem crc_ev (l : List Int) (hl : l.length ≤ 1048576) : ∃ c, Ev (fun k => spec_Crc.f k l) c ∧ 0 ≤ c ∧ c ≤ 4294967295 := by
  have key := down (P := fun i => ∀ x, 0 ≤ x → x < 4294967296 → ∃ r, Ev (fun k => spec_l2Reg.l0 k x l (i : Int)) r ∧ 0 ≤ r ∧ r < 4294967296) l.length ?_ ?_
  · obtain ⟨r, h, h0, h1⟩ := key 4294967295 (by omega) (by omega)
    refine ⟨wrap64 (4294967295 - r), Ev.congr (fun k => by unfold spec_Crc.f spec_l2Reg.f; rfl) ((show Ev (fun k => spec_l2Reg.l0 k 4294967295 l 0) r from h).bind (Ev.now _)), ?_⟩
    rw [w64 (by omega) (by omega)]; omega
  · intro x h0 h1
    exact ⟨x, Ev.step (f := fun _ => some x) (fun k => by simp only [spec_l2Reg.l0]; rw [if_neg (by omega)]) (Ev.now _), h0, h1⟩
  · intro i hi ih x h0 h1
    have hw : wrap64 ((i : Int) + 1) = ((i + 1 : Nat) : Int) := by rw [w64 (by omega) (by omega)]; rfl
    obtain ⟨r, h, hr⟩ := reg_in l (i : Int) (by rw [hw]; exact ih) 8 0 x (wrap64 (rd l (i : Int))) (by omega) h0 h1
    exact ⟨r, Ev.step (fun k => by simp only [spec_l2Reg.l0]; rw [if_pos (by omega), if_pos (by omega)]; rfl) h, hr⟩
theorem commit_ev (s n c : Int) (hs : 1 ≤ s ∧ s ≤ 4294967295) (hn : 1 ≤ n ∧ n < 512) (hc : 0 ≤ c ∧ c ≤ 4294967295) : ∃ r, Ev (fun k => spec_EncodeCommit.f k s n c) r ∧ r.length = 64 := by
  obtain ⟨hd, e1, e2⟩ := head_ev 4 n s (by omega) (by omega)
  obtain ⟨r, e3, e4⟩ := pad (hd ++ be 4 c) (by rw [List.length_append, be_len]; omega)
  refine ⟨r, ?_, e4⟩
  refine Ev.congr (fun k => by unfold spec_EncodeCommit.f; rw [good_seq s hs, Option.bind_some, if_pos rfl, if_neg (by omega), if_neg (by omega), if_neg (by omega), decide_eq_false (by omega)]) ?_
  refine Ev.step (f := fun k => (spec_l3Head.f k 4 n s).bind fun t379 => ((spec_PutNumber.f k c 4).bind fun t382 => ((spec_l2Join.f t379 t382).bind fun t385 => ((spec_l3Pad.f t385).bind fun t388 => (some t388))))) (fun k => by simp only [spec_EncodeCommit.j0]; rw [if_neg (by decide)]) ?_
  refine e1.bind ?_
  refine (put4 c hc.1 hc.2).bind ?_
  exact Ev.congr (fun k => by rw [join hd _ (by omega) (by rw [be_len]; omega), Option.bind_some, e3, Option.bind_some]) (Ev.now _)
theorem length_ev (a : Int) (l : List S61) (v : List Int) (hl : l.length ≤ 1048576) (hv : v.length ≤ 1048576) : ∃ n, Ev (fun k => spec_TxnLength.f k a l v) n ∧ Ev (fun k => impl_TxnLength.f k a l v) n := by
  obtain ⟨r, h1, h2, h3⟩ := both a l v hl hv
  by_cases c : r = true
  · obtain ⟨a1, a2, n1, n2, hp, ov, ol⟩ := h3 c
    have d64 : ∀ y ∈ l, y.f1.length = 64 := fun y hy => by
      have := List.all_eq_true.1 hp y hy
      unfold pass at this
      simp only [Bool.and_eq_true, decide_eq_true_eq] at this
      exact this.1
    obtain ⟨b, e1, e2⟩ := body_ev a ⟨a1, a2⟩ l (by omega) d64 ol v.length v rfl (by omega) ov
    obtain ⟨q, e3, e4⟩ := crc_ev b (by omega)
    have hq : wrap64 ((b.length : Int) / 64) = ((v.length + 25) / 26 + l.length + (l.length + 16) / 17 : Nat) := by rw [w64 (by omega) (by omega), e2]; omega
    obtain ⟨m, e5, e6⟩ := commit_ev a (wrap64 ((b.length : Int) / 64)) q ⟨a1, a2⟩ (by rw [hq]; omega) e4
    refine ⟨((v.length + 25) / 26 + l.length + (l.length + 16) / 17 + 1 : Nat), ?_, ?_⟩
    · refine Ev.congr (f := fun k => (spec_TxnBlocks.f k a l v).bind fun t408 => (some (wrap64 ((t408.length : Int) / 64)))) (fun k => by unfold spec_TxnLength.f; rfl) ?_
      have tb : Ev (fun k => spec_TxnBlocks.f k a l v) (b ++ m) := by
        refine Ev.congr (fun k => by unfold spec_TxnBlocks.f; rfl) ?_
        refine h1.bind ?_
        refine Ev.congr (fun k => if_pos c) ?_
        refine e1.bind ?_
        refine e3.bind ?_
        refine e5.bind ?_
        exact Ev.congr (fun k => by rw [join b m (by omega) (by omega), Option.bind_some]) (Ev.now _)
      refine tb.bind ?_
      have hz : wrap64 (((b ++ m).length : Int) / 64) = (((v.length + 25) / 26 + l.length + (l.length + 16) / 17 + 1 : Nat) : Int) := by
        rw [List.length_append, w64 (by omega) (by omega)]; omega
      rw [hz]; exact Ev.now _
    · refine Ev.congr (fun k => by unfold impl_TxnLength.f; rfl) ?_
      refine h2.bind ?_
      refine Ev.congr (fun k => if_pos c) ?_
      have t1 : wrap64 (Int.tdiv (wrap64 ((v.length : Int) + 25)) 26) = ((v.length : Int) + 25) / 26 := by
        rw [w64 (x := (v.length : Int) + 25) (by omega) (by omega), Int.tdiv_eq_ediv_of_nonneg (by omega), w64 (by omega) (by omega)]
      have t2 : wrap64 (Int.tdiv (wrap64 ((l.length : Int) + 16)) 17) = ((l.length : Int) + 16) / 17 := by
        rw [w64 (x := (l.length : Int) + 16) (by omega) (by omega), Int.tdiv_eq_ediv_of_nonneg (by omega), w64 (by omega) (by omega)]
      have t3 : wrap64 ((wrap64 ((wrap64 ((wrap64 (Int.tdiv (wrap64 ((v.length : Int) + 25)) 26)) + (l.length : Int))) + (wrap64 (Int.tdiv (wrap64 ((l.length : Int) + 16)) 17)))) + 1) = (((v.length + 25) / 26 + l.length + (l.length + 16) / 17 + 1 : Nat) : Int) := by
        rw [t1, t2, w64 (x := _ + (l.length : Int)) (by omega) (by omega), w64 (x := _ + ((l.length : Int) + 16) / 17) (by omega) (by omega), w64 (by omega) (by omega)]; omega
      rw [t3]; exact Ev.now _
  · refine ⟨0, ?_, ?_⟩
    · refine Ev.congr (f := fun k => (spec_TxnBlocks.f k a l v).bind fun t408 => (some (wrap64 ((t408.length : Int) / 64)))) (fun k => by unfold spec_TxnLength.f; rfl) ?_
      have tb : Ev (fun k => spec_TxnBlocks.f k a l v) [] := by
        refine Ev.congr (fun k => by unfold spec_TxnBlocks.f; rfl) ?_
        refine h1.bind ?_
        exact Ev.congr (fun k => if_neg c) (Ev.now _)
      exact tb.bind (Ev.congr (fun _ => show some (wrap64 ((([] : List Int).length : Int) / 64)) = some 0 by rw [w64 (by simp) (by simp)]; rfl) (Ev.now (0 : Int)))
    · refine Ev.congr (fun k => by unfold impl_TxnLength.f; rfl) ?_
      refine h2.bind ?_
      exact Ev.congr (fun k => if_neg c) (Ev.now _)
theorem j0_some (k : Nat) (b : Bool) (s st q hd us : Int) (hs : b = false → s ≠ 0) : ∃ r, spec_ValidLog.j0 (k + 1) b s st q hd us = some r := by
  simp only [spec_ValidLog.j0]
  cases b with
  | true => exact ⟨false, if_pos rfl⟩
  | false =>
    by_cases h : st = 0
    · exact ⟨_, by rw [if_neg (by simp), if_pos h]⟩
    · unfold spec_l4Place.f
      exact ⟨_, by rw [if_neg (by simp), if_neg h, if_neg (hs rfl), Option.bind_some]⟩
theorem spec_some (s st q hd us : Int) : ∃ r, Ev (fun k => spec_ValidLog.f k s st q hd us) r := by
  have key : ∃ r, spec_ValidLog.f 1 s st q hd us = some r := by
    have jt := fun hs => j0_some 0 true s st q hd us hs
    have jt' := jt (fun h => by cases h)
    unfold spec_ValidLog.f spec_l3GoodSeq.f
    by_cases c1 : q ≥ 1
    · rw [if_pos c1, Option.bind_some]
      by_cases c2 : decide (q ≤ 4294967295) = true
      · rw [if_pos c2]
        by_cases c3 : s < 16
        · rw [if_pos c3]; exact jt'
        · rw [if_neg c3]
          split
          · exact jt'
          · split
            · exact jt'
            · split
              · exact jt'
              · split
                · exact jt'
                · split
                  · exact jt'
                  · split
                    · exact jt'
                    · exact j0_some 0 _ s st q hd us (fun _ => by omega)
      · rw [if_neg c2]; exact jt'
    · rw [if_neg c1, Option.bind_some, if_neg (by simp)]; exact jt'
  obtain ⟨r, h⟩ := key
  exact ⟨r, Ev.of (fun k => spec_ValidLog.mono s st q hd us k) h⟩
/-- A log that is one has a size. -/
theorem valid_size (k : Nat) (s st q hd us : Int) (h : spec_ValidLog.f k s st q hd us = some true) : s ≠ 0 := by
  intro hs
  have hj : ∀ k, spec_ValidLog.j0 k true s st q hd us ≠ some true := by
    intro k
    cases k with
    | zero => simp [spec_ValidLog.j0]
    | succ k => simp [spec_ValidLog.j0]
  unfold spec_ValidLog.f at h
  cases hg : spec_l3GoodSeq.f q with
  | none => rw [hg] at h; cases h
  | some b =>
    rw [hg, Option.bind_some, if_pos (show s < 16 by omega)] at h
    split at h <;> exact hj _ h
theorem place (s hd n : Int) : spec_l4Place.f s hd n = impl_nth.f hd n s := rfl
theorem takes_ev (s st q hd us a : Int) (l : List S61) (v : List Int) (hl : l.length ≤ 1048576) (hv : v.length ≤ 1048576) : ∃ t, Ev (fun k => spec_l4Takes.f k s st q hd us a l v) t ∧ Ev (fun k => impl_takes.f k s st q hd us a l v) t ∧ (t = true → s ≠ 0) := by
  obtain ⟨b, hb⟩ := spec_some s st q hd us
  have ib : Ev (fun k => impl_ValidLog.f k s st q hd us) b := hb
  obtain ⟨r, h1, h2, _⟩ := both a l v hl hv
  obtain ⟨n, n1, n2⟩ := length_ev a l v hl hv
  have no : ∀ c : Bool, (b = true → r = true → q = a → q < 4294967295 → False) → c = false → ∃ t, Ev (fun k => spec_l4Takes.f k s st q hd us a l v) t ∧ Ev (fun k => impl_takes.f k s st q hd us a l v) t ∧ (t = true → s ≠ 0) := by
    intro c hn hc
    refine ⟨false, ?_, ?_, fun h => by cases h⟩
    · refine Ev.congr (fun k => by unfold spec_l4Takes.f; rfl) (hb.bind (h1.bind ?_))
      refine Ev.congr (f := fun _ => some false) (fun k => ?_) (Ev.now _)
      by_cases e1 : b = true
      · rw [if_pos e1]
        by_cases e2 : r = true
        · rw [if_pos e2]
          by_cases e3 : q = a
          · rw [if_pos e3]
            by_cases e4 : q < 4294967295
            · exact (hn e1 e2 e3 e4).elim
            · rw [if_neg e4]
          · rw [if_neg e3]
        · rw [if_neg e2]
      · rw [if_neg e1]
    · refine Ev.congr (fun k => by unfold impl_takes.f; rfl) (ib.bind ?_)
      by_cases e1 : b = true
      · refine Ev.congr (fun k => if_pos e1) (h2.bind ?_)
        refine Ev.congr (f := fun _ => some false) (fun k => ?_) (Ev.now _)
        by_cases e2 : r = true
        · rw [if_pos e2]
          by_cases e3 : q = a
          · rw [if_pos e3]
            by_cases e4 : q < 4294967295
            · exact (hn e1 e2 e3 e4).elim
            · rw [if_neg e4]
          · rw [if_neg e3]
        · rw [if_neg e2]
      · exact Ev.congr (fun k => if_neg e1) (Ev.now _)
  by_cases c : b = true ∧ r = true ∧ q = a ∧ q < 4294967295
  rotate_left
  · exact no false (fun e1 e2 e3 e4 => c ⟨e1, e2, e3, e4⟩) rfl
  obtain ⟨e1, e2, e3, e4⟩ := c
  obtain ⟨K, hK⟩ := hb
  have hs : s ≠ 0 := valid_size K s st q hd us ((hK K (Nat.le_refl _)).trans (by rw [e1]))
  have hb : Ev (fun k => spec_ValidLog.f k s st q hd us) b := ⟨K, hK⟩
  refine ⟨decide (n ≤ wrap64 (s - us)), ?_, ?_, fun _ => hs⟩
  · refine Ev.congr (fun k => by unfold spec_l4Takes.f; rfl) (hb.bind (h1.bind ?_))
    refine Ev.congr (fun k => by rw [if_pos e1, if_pos e2, if_pos e3, if_pos e4]) (n1.bind (Ev.now _))
  · refine Ev.congr (fun k => by unfold impl_takes.f; rfl) (ib.bind ?_)
    refine Ev.congr (fun k => if_pos e1) (h2.bind ?_)
    refine Ev.congr (fun k => by rw [if_pos e2, if_pos e3, if_pos e4]) (n2.bind (Ev.now _))
theorem next_both (s st q hd us a : Int) (l : List S61) (v : List Int) (hl : l.length ≤ 1048576) (hv : v.length ≤ 1048576) : ∃ r, Ev (fun k => spec_LogNext.f k s st q hd us a l v) r ∧ Ev (fun k => impl_LogNext.f k s st q hd us a l v) r := by
  obtain ⟨t, t1, t2, t3⟩ := takes_ev s st q hd us a l v hl hv
  obtain ⟨n, n1, n2⟩ := length_ev a l v hl hv
  by_cases c : t = true
  rotate_left
  · refine ⟨(0, 0, 0, 0, 0), ?_, ?_⟩
    · exact Ev.congr (fun k => by unfold spec_LogNext.f; rfl) (t1.bind (Ev.congr (fun k => if_neg c) (Ev.now _)))
    · exact Ev.congr (fun k => by unfold impl_LogNext.f; rfl) (t2.bind (Ev.congr (fun k => if_neg c) (Ev.now _)))
  have hs := t3 c
  obtain ⟨p, hp⟩ : ∃ p, impl_nth.f hd n s = some p := by unfold impl_nth.f; exact ⟨_, if_neg hs⟩
  have hp' : spec_l4Place.f s hd n = some p := hp
  by_cases z : st = 0
  · refine ⟨(s, hd, wrap64 (q + 1), p, wrap64 (us + n)), ?_, ?_⟩
    · refine Ev.congr (fun k => by unfold spec_LogNext.f; rfl) (t1.bind (Ev.congr (fun k => if_pos c) (n1.bind ?_)))
      exact Ev.congr (fun k => by rw [if_pos z, hp', Option.bind_some]) (Ev.now _)
    · refine Ev.congr (fun k => by unfold impl_LogNext.f; rfl) (t2.bind (Ev.congr (fun k => by rw [if_pos c, if_pos z]) (n2.bind ?_)))
      exact Ev.congr (fun k => by rw [hp, Option.bind_some]) (Ev.now _)
  · refine ⟨(s, st, wrap64 (q + 1), p, wrap64 (us + n)), ?_, ?_⟩
    · refine Ev.congr (fun k => by unfold spec_LogNext.f; rfl) (t1.bind (Ev.congr (fun k => if_pos c) (n1.bind ?_)))
      exact Ev.congr (fun k => by rw [if_neg z, hp', Option.bind_some]) (Ev.now _)
    · refine Ev.congr (fun k => by unfold impl_LogNext.f; rfl) (t2.bind (Ev.congr (fun k => by rw [if_pos c, if_neg z]) (n2.bind ?_)))
      exact Ev.congr (fun k => by rw [hp, Option.bind_some]) (Ev.now _)
end TL
theorem FnExactLogNext (s st q hd us a : Int) (l : List S68) (v : List Int) (_ : (Lit.int .i64 s).wf = true) (_ : (Lit.int .i64 st).wf = true) (_ : (Lit.int .i64 q).wf = true) (_ : (Lit.int .i64 hd).wf = true) (_ : (Lit.int .i64 us).wf = true) (_ : (Lit.int .i64 a).wf = true) (g1 : l.length ≤ maxLen ∧ ∀ y ∈ l, (Lit.int .i64 y.f0).wf = true ∧ (y.f1.length ≤ maxLen ∧ ∀ z ∈ y.f1, (Lit.int .u8 z).wf = true)) (g2 : v.length ≤ maxLen ∧ ∀ y ∈ v, (Lit.int .i64 y).wf = true) : ∃ k, laws_FnExactLogNext.f k s st q hd us a l v = some true := by
  obtain ⟨z, hz, hz2⟩ := TL.szT a l v 1048576 (by omega) (by omega) g1 g2
  refine Ev.rounds (Ev.congr (fun k => by unfold laws_FnExactLogNext.f; rfl) ?_)
  refine hz.bind ?_
  by_cases c : z < 0
  · exact Ev.congr (fun k => if_pos c) (Ev.now true)
  refine Ev.congr (fun k => if_neg c) ?_
  obtain ⟨_, _, hf, hv⟩ := hz2.resolve_left c
  have t := TL.toT a l v hf hv
  have fm := TL.fit_map l hf
  obtain ⟨r, sn, i⟩ := TL.next_both s st q hd us a (l.map TL.toH) v fm.1 hv
  refine Ev.congr (fun k => by unfold laws_toLog.f; rw [Option.bind_some]) ?_
  refine t.bind ?_
  refine sn.bind ?_
  refine t.bind ?_
  refine Ev.congr (fun k => by rw [Option.bind_some]) ?_
  refine i.bind ?_
  refine Ev.congr (fun k => by unfold laws_eqLog.f; rw [if_pos rfl, if_pos rfl, if_pos rfl, if_pos rfl, if_pos rfl, Option.bind_some, if_pos rfl]) ?_
  refine t.bind ?_
  refine (TL.eqT a (l.map TL.toH) v fm hv).bind ?_
  exact Ev.congr (fun k => if_pos rfl) (Ev.now true)
end Go.Proofs.Ytkehfdadplpaeaa.Pure
