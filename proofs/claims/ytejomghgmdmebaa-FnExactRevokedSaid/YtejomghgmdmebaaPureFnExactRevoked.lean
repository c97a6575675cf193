/- FnExactRevoked: at every list of transactions and two numbers the program's Revoked answers as the reference's, and the transactions stay as they were. -/
import Derived.Test.YtejomghgmdmebaaPFnExactRevokedx
import Derived.Test.YtejomghgmdmebaaHlp2
namespace Go.Proofs.Ytejomghgmdmebaa.Pure
open Go.RowKit Go.Proofs.Ytejomghgmdmebaa.PFnExactRevoked Go.Proofs.YtejomghgmdmebaaW.PrintWords Go.Proofs.YtejomghgmdmebaaW.PrintLast Go.Proofs.YtejomghgmdmebaaW.PrintMore Go.Proofs.Ytejomghgmdmebaa.Hlp
namespace RV
theorem rd78 (l : List S78) (i : Nat) (h : i < l.length) : rd_T78 l (i : Int) = l[i] := by simp [rd_T78, h]
theorem rd62 (l : List S62) (i : Nat) (h : i < l.length) : rd_T62 l (i : Int) = l[i] := by simp [rd_T62, h]
def toH (e : S78) : S62 := ⟨e.f0, e.f1⟩
def goodH (l : List S78) : Prop := l.length ≤ maxLen ∧ ∀ y ∈ l, (Lit.int .i64 y.f0).wf = true ∧ (y.f1.length ≤ maxLen ∧ ∀ z ∈ y.f1, (Lit.int .u8 z).wf = true)
def goodI (l : List Int) : Prop := l.length ≤ maxLen ∧ ∀ y ∈ l, (Lit.int .i64 y).wf = true
/-- Lengths within the budget. -/
def fitH (l : List S78) : Prop := l.length ≤ 1048576 ∧ ∀ y ∈ l, y.f1.length ≤ 1048576
theorem mem_sum (l : List S78) (y : S78) (h : y ∈ l) : y.f1.length ≤ (l.map (fun e => e.f1.length)).sum := by
  induction l with
  | nil => cases h
  | cons a r ih =>
    rw [List.map_cons, List.sum_cons]
    rcases List.mem_cons.1 h with rfl | h
    · omega
    · have := ih h; omega
theorem szHS (l : List S78) (b : Int) (h0 : 0 ≤ b) (hb : b ≤ 1048576) (hl : goodH l) : ∃ r, Ev (fun k => laws_szHomeS.f k l b) r ∧ (r < 0 ∨ (0 ≤ r ∧ r ≤ b ∧ fitH l ∧ l.length + r ≤ b)) := by
  have hm : maxLen ≤ 9223372036854775807 := by decide
  obtain ⟨hl, hg⟩ := hl
  by_cases c : (wrap64 (b - (l.length : Int))) < 0
  · exact ⟨-1, Ev.congr (fun k => by unfold laws_szHomeS.f; rw [if_pos c]) (Ev.now _), Or.inl (by decide)⟩
  · rw [w64 (by omega) (by omega)] at c
    have hl6 : l.length ≤ 1048576 := by omega
    obtain ⟨r, h, hr⟩ := szG_ev (fun e : S78 => e.f1.length) (L := laws_szHomeS.l0) l (by
      intro i s hi h0 hs
      have hy := (hg l[i] (List.getElem_mem _)).2.1
      have hw : wrap64 ((i : Int) + 1) = ((i + 1 : Nat) : Int) := by rw [w64 (by omega) (by omega)]; rfl
      by_cases d : (l[i].f1.length : Int) ≤ s
      · refine Or.inr ⟨d, fun r h => Ev.step (fun k => ?_) h⟩
        simp only [laws_szHomeS.l0, laws_szHome.f, laws_szByteS.f]
        rw [if_pos (by omega), if_pos (by omega), rd78 l i hi, w64 (x := s - _) (by omega) (by omega), if_neg (by omega), Option.bind_some, if_neg (by omega), Option.bind_some, if_neg (by omega), hw]
      · refine Or.inl ⟨-1, by decide, Ev.step (f := fun _ => some (-1)) (fun k => ?_) (Ev.now _)⟩
        simp only [laws_szHomeS.l0, laws_szHome.f, laws_szByteS.f]
        rw [if_pos (by omega), if_pos (by omega), rd78 l i hi, w64 (x := s - _) (by omega) (by omega), if_pos (by omega), Option.bind_some, if_pos (by omega), Option.bind_some, if_pos (by omega)])
      (fun s => Ev.step (f := fun _ => some s) (fun k => by simp only [laws_szHomeS.l0]; rw [if_neg (by omega)]) (Ev.now _)) (b - (l.length : Int)) (by omega) (by omega)
    refine ⟨r, Ev.congr (fun k => by unfold laws_szHomeS.f; rw [w64 (by omega) (by omega), if_neg (by omega)]) h, ?_⟩
    rcases hr with h | ⟨h1, h2⟩
    · exact Or.inl h
    · refine Or.inr ⟨h1, by omega, ⟨hl6, fun y hy => ?_⟩, by omega⟩
      have := mem_sum l y hy; omega
theorem toHome_ev (a : Int) (d : List Int) (hd : d.length ≤ 1048576) : Ev (fun k => laws_toHome.f k a d) (a, d) := by
  refine Ev.congr (fun k => by unfold laws_toHome.f; rfl) ?_
  refine (toS_ev (F := laws_toByteS.f) (fun _ _ => rfl) (fun _ _ _ _ => rfl) d (by omega) (by omega)).bind ?_
  exact Ev.now _
theorem toHS (l : List S78) (hf : fitH l) : Ev (fun k => laws_toHomeS.f k l) (l.map toH) := by
  obtain ⟨hl, hg⟩ := hf
  refine Ev.congr (f := fun k => laws_toHomeS.l0 k l (List.replicate l.length z62) 0) (fun k => by unfold laws_toHomeS.f; rw [if_pos (by omega), if_pos (by simp; omega)]; simp) ?_
  refine fill_ev (L := fun k x i => laws_toHomeS.l0 k l x i) l toH ?_ ?_ _ (by simp)
  · intro i x hi hx r h
    refine Ev.step (f := fun k => (laws_toHome.f k l[i].f0 l[i].f1).bind fun t => laws_toHomeS.l0 k l (x.set i (⟨t.1, t.2⟩ : S62)) ((i + 1 : Nat) : Int)) (fun k => ?_) ?_
    · simp only [laws_toHomeS.l0]
      rw [if_pos (by omega), if_pos (by omega), w64 (by omega) (by omega), rd78 l i hi, Int.toNat_natCast]
      congr 1
      funext t
      rw [if_pos (by omega)]; rfl
    · exact (toHome_ev _ _ (hg _ (List.getElem_mem _))).bind h
  · intro x hx
    exact Ev.step (f := fun _ => some x) (fun k => by simp only [laws_toHomeS.l0]; rw [if_neg (by omega)]) (Ev.now _)
theorem eqHome_ev (a : Int) (d : List Int) (hd : d.length ≤ 1048576) : Ev (fun k => laws_eqHome.f k a d a d) true := by
  refine Ev.congr (fun k => by unfold laws_eqHome.f; rw [if_pos rfl]) ?_
  refine (eqS_ev (F := laws_eqByteS.f) (fun _ _ _ => rfl) (fun _ _ _ _ => rfl) d (by omega)).bind ?_
  exact Ev.congr (fun k => if_pos rfl) (Ev.now true)
theorem eqHS (l : List S62) (hl : l.length ≤ 1048576) (hg : ∀ y ∈ l, y.f1.length ≤ 1048576) : Ev (fun k => laws_eqHomeS.f k l l) true := by
  refine Ev.congr (f := fun k => laws_eqHomeS.l0 k l l 0) (fun k => by unfold laws_eqHomeS.f; rw [if_pos rfl]) ?_
  refine eqG_ev (L := laws_eqHomeS.l0) l ?_ ?_
  · intro i hi h
    refine Ev.step (f := fun k => (laws_eqHome.f k l[i].f0 l[i].f1 l[i].f0 l[i].f1).bind fun t => if t = true then laws_eqHomeS.l0 k l l ((i + 1 : Nat) : Int) else some false) (fun k => ?_) ?_
    · simp only [laws_eqHomeS.l0]
      rw [if_pos (by omega), if_pos (by omega), if_pos (by omega), rd62 l i hi, w64 (by omega) (by omega)]
      rfl
    · refine (eqHome_ev _ _ (hg _ (List.getElem_mem _))).bind ?_
      exact Ev.congr (fun k => if_pos rfl) h
  · exact Ev.step (f := fun _ => some true) (fun k => by simp only [laws_eqHomeS.l0]; rw [if_neg (by omega)]) (Ev.now _)
theorem fit_map (l : List S78) (hf : fitH l) : (l.map toH).length ≤ 1048576 ∧ ∀ y ∈ l.map toH, y.f1.length ≤ 1048576 := by
  refine ⟨by simpa using hf.1, fun y hy => ?_⟩
  obtain ⟨z, hz, rfl⟩ := List.mem_map.1 hy
  exact hf.2 z hz
/-- A whole transaction. -/
theorem szT (a : Int) (l : List S78) (v : List Int) (b : Int) (h0 : 0 ≤ b) (hb : b ≤ 1048576) (hl : goodH l) (hv : goodI v) : ∃ r, Ev (fun k => laws_szTxn.f k a l v b) r ∧ (r < 0 ∨ (0 ≤ r ∧ r ≤ b ∧ fitH l ∧ v.length ≤ 1048576)) := by
  have hm : maxLen ≤ 9223372036854775807 := by decide
  obtain ⟨r, h, hr⟩ := szHS l b h0 hb hl
  by_cases c : r < 0
  · exact ⟨-1, Ev.congr (fun k => by unfold laws_szTxn.f; rfl) (h.bind (Ev.congr (fun k => if_pos c) (Ev.now _))), Or.inl (by decide)⟩
  · obtain ⟨h1, h2, h3, h4⟩ := hr.resolve_left c
    have hv1 := hv.1
    by_cases d : (wrap64 (r - (v.length : Int))) < 0
    · refine ⟨-1, Ev.congr (fun k => by unfold laws_szTxn.f; rfl) (h.bind (Ev.congr (fun k => if_neg c) ?_)), Or.inl (by decide)⟩
      unfold laws_szInt64S.f
      exact Ev.congr (fun k => by rw [if_pos d, Option.bind_some, if_pos (by decide)]) (Ev.now (-1))
    · refine ⟨wrap64 (r - (v.length : Int)), Ev.congr (fun k => by unfold laws_szTxn.f; rfl) (h.bind (Ev.congr (fun k => if_neg c) ?_)), Or.inr ?_⟩
      · unfold laws_szInt64S.f
        exact Ev.congr (fun k => by rw [if_neg d, Option.bind_some, if_neg d]) (Ev.now _)
      · rw [w64 (by omega) (by omega)] at d ⊢
        exact ⟨by omega, by omega, h3, by omega⟩
theorem toT (a : Int) (l : List S78) (v : List Int) (hl : fitH l) (hv : v.length ≤ 1048576) : Ev (fun k => laws_toTxn.f k a l v) (a, l.map toH, v) := by
  refine Ev.congr (fun k => by unfold laws_toTxn.f; rfl) ?_
  refine (toHS l hl).bind ?_
  refine (toS_ev (F := laws_toInt64S.f) (fun _ _ => rfl) (fun _ _ _ _ => rfl) v (by omega) (by omega)).bind ?_
  exact Ev.now _
theorem eqT (a : Int) (l : List S62) (v : List Int) (hl : l.length ≤ 1048576 ∧ ∀ y ∈ l, y.f1.length ≤ 1048576) (hv : v.length ≤ 1048576) : Ev (fun k => laws_eqTxn.f k a l v a l v) true := by
  refine Ev.congr (fun k => by unfold laws_eqTxn.f; rw [if_pos rfl]) ?_
  refine (eqHS l hl.1 hl.2).bind ?_
  refine Ev.congr (fun k => if_pos rfl) ?_
  refine (eqS_ev (F := laws_eqInt64S.f) (fun _ _ _ => rfl) (fun _ _ _ _ => rfl) v (by omega)).bind ?_
  exact Ev.congr (fun k => if_pos rfl) (Ev.now true)
theorem has_ev (v : List Int) (x : Int) (hv : v.length ≤ 1048576) : Ev (fun k => spec_l4Has.f k v x) (decide (x ∈ v)) := by
  have := down (P := fun i => Ev (fun k => spec_l4Has.l0 k v x (i : Int)) (decide (x ∈ v.drop i))) v.length ?_ ?_
  · simpa [spec_l4Has.f] using this
  · rw [List.drop_length]
    exact Ev.step (f := fun _ => some (decide (x ∈ ([] : List Int)))) (fun k => by simp only [spec_l4Has.l0]; rw [if_neg (by omega)]; simp) (Ev.now _)
  · intro i hi h
    have hw : wrap64 ((i : Int) + 1) = ((i + 1 : Nat) : Int) := by rw [w64 (by omega) (by omega)]; rfl
    rw [List.drop_eq_getElem_cons hi]
    by_cases c : v[i] = x
    · rw [decide_eq_true (by rw [c]; exact List.mem_cons_self)]
      exact Ev.step (f := fun _ => some true) (fun k => by simp only [spec_l4Has.l0]; rw [if_pos (by omega), if_pos (by omega), rd_nat v i hi, if_pos c]) (Ev.now _)
    · have e : decide (x ∈ v[i] :: v.drop (i + 1)) = decide (x ∈ v.drop (i + 1)) := by
        rw [decide_eq_decide]
        exact ⟨fun h => (List.mem_cons.1 h).resolve_left (Ne.symm c), List.mem_cons_of_mem _⟩
      rw [e]
      exact Ev.step (fun k => by simp only [spec_l4Has.l0]; rw [if_pos (by omega), if_pos (by omega), rd_nat v i hi, if_neg c, hw]) h
theorem rd32 (l : List S32) (i : Nat) (h : i < l.length) : rd_T32 l (i : Int) = l[i] := by simp [rd_T32, h]
theorem rd37 (l : List S37) (i : Nat) (h : i < l.length) : rd_T37 l (i : Int) = l[i] := by simp [rd_T37, h]
def toX (e : S32) : S37 := ⟨e.f0, e.f1.map toH, e.f2⟩
def goodX (l : List S32) : Prop := l.length ≤ maxLen ∧ ∀ y ∈ l, (Lit.int .i64 y.f0).wf = true ∧ goodH y.f1 ∧ goodI y.f2
def fitX (l : List S32) : Prop := l.length ≤ 1048576 ∧ ∀ y ∈ l, fitH y.f1 ∧ y.f2.length ≤ 1048576
theorem szXS (l : List S32) (hl : goodX l) : ∃ r, Ev (fun k => laws_szTxnS.f k l 1048576) r ∧ (r < 0 ∨ fitX l) := by
  have hm : maxLen ≤ 9223372036854775807 := by decide
  obtain ⟨hl, hg⟩ := hl
  by_cases c : (wrap64 (1048576 - (l.length : Int))) < 0
  · exact ⟨-1, Ev.congr (fun k => by unfold laws_szTxnS.f; rw [if_pos c]) (Ev.now _), Or.inl (by decide)⟩
  · rw [w64 (by omega) (by omega)] at c
    have hl6 : l.length ≤ 1048576 := by omega
    have key := down (P := fun i => ∀ s, 0 ≤ s → s ≤ 1048576 → ∃ r, Ev (fun k => laws_szTxnS.l0 k l s (i : Int)) r ∧ (r < 0 ∨ ∀ y ∈ l.drop i, fitH y.f1 ∧ y.f2.length ≤ 1048576)) l.length ?_ ?_
    · obtain ⟨r, h, hr⟩ := key (1048576 - (l.length : Int)) (by omega) (by omega)
      refine ⟨r, Ev.congr (fun k => by unfold laws_szTxnS.f; rw [w64 (by omega) (by omega), if_neg (by omega)]) (show Ev (fun k => laws_szTxnS.l0 k l (1048576 - (l.length : Int)) 0) r from h), ?_⟩
      rcases hr with h | h
      · exact Or.inl h
      · exact Or.inr ⟨hl6, by simpa using h⟩
    · intro s _ _
      exact ⟨s, Ev.step (f := fun _ => some s) (fun k => by simp only [laws_szTxnS.l0]; rw [if_neg (by omega)]) (Ev.now _), Or.inr (by rw [List.drop_length]; intro y hy; cases hy)⟩
    · intro i hi ih s h0 h1
      have hw : wrap64 ((i : Int) + 1) = ((i + 1 : Nat) : Int) := by rw [w64 (by omega) (by omega)]; rfl
      have gy := hg l[i] (List.getElem_mem _)
      obtain ⟨z, hz, hz2⟩ := szT l[i].f0 l[i].f1 l[i].f2 s h0 h1 gy.2.1 gy.2.2
      have st : ∀ q, Ev (fun k => if z < 0 then some (-1) else laws_szTxnS.l0 k l z ((i + 1 : Nat) : Int)) q → Ev (fun k => laws_szTxnS.l0 k l s (i : Int)) q := fun q h => by
        refine Ev.step (f := fun k => (laws_szTxn.f k l[i].f0 l[i].f1 l[i].f2 s).bind fun t => if t < 0 then some (-1) else laws_szTxnS.l0 k l t ((i + 1 : Nat) : Int)) (fun k => ?_) (hz.bind h)
        simp only [laws_szTxnS.l0]
        rw [if_pos (by omega), if_pos (by omega), rd32 l i hi, hw]
      by_cases d : z < 0
      · exact ⟨-1, st _ (Ev.congr (fun k => if_pos d) (Ev.now _)), Or.inl (by decide)⟩
      · obtain ⟨a, b, e, f⟩ := hz2.resolve_left d
        obtain ⟨r, h, hr⟩ := ih z a (by omega)
        refine ⟨r, st _ (Ev.congr (fun k => if_neg d) h), ?_⟩
        rcases hr with h | h
        · exact Or.inl h
        · refine Or.inr (fun y hy => ?_)
          rw [List.drop_eq_getElem_cons hi] at hy
          rcases List.mem_cons.1 hy with rfl | hy
          · exact ⟨e, f⟩
          · exact h y hy
theorem toXS (l : List S32) (hf : fitX l) : Ev (fun k => laws_toTxnS.f k l) (l.map toX) := by
  obtain ⟨hl, hg⟩ := hf
  refine Ev.congr (f := fun k => laws_toTxnS.l0 k l (List.replicate l.length z37) 0) (fun k => by unfold laws_toTxnS.f; rw [if_pos (by omega), if_pos (by simp; omega)]; simp) ?_
  refine fill_ev (L := fun k x i => laws_toTxnS.l0 k l x i) l toX ?_ ?_ _ (by simp)
  · intro i x hi hx r h
    refine Ev.step (f := fun k => (laws_toTxn.f k l[i].f0 l[i].f1 l[i].f2).bind fun t => laws_toTxnS.l0 k l (x.set i (⟨t.1, t.2.1, t.2.2⟩ : S37)) ((i + 1 : Nat) : Int)) (fun k => ?_) ?_
    · simp only [laws_toTxnS.l0]
      rw [if_pos (by omega), if_pos (by omega), w64 (by omega) (by omega), rd32 l i hi, Int.toNat_natCast]
      congr 1
      funext t
      rw [if_pos (by omega)]; rfl
    · have := hg _ (List.getElem_mem hi)
      exact (toT _ _ _ this.1 this.2).bind h
  · intro x hx
    exact Ev.step (f := fun _ => some x) (fun k => by simp only [laws_toTxnS.l0]; rw [if_neg (by omega)]) (Ev.now _)
theorem eqXS (l : List S32) (hf : fitX l) : Ev (fun k => laws_eqTxnS.f k (l.map toX) (l.map toX)) true := by
  obtain ⟨hl, hg⟩ := hf
  have hlen : (l.map toX).length = l.length := by simp
  have hg2 : ∀ y ∈ l.map toX, (y.f1.length ≤ 1048576 ∧ ∀ z ∈ y.f1, z.f1.length ≤ 1048576) ∧ y.f2.length ≤ 1048576 := fun y hy => by
    obtain ⟨z, hz, rfl⟩ := List.mem_map.1 hy
    exact ⟨fit_map z.f1 (hg z hz).1, (hg z hz).2⟩
  generalize l.map toX = m at hlen hg2
  refine Ev.congr (f := fun k => laws_eqTxnS.l0 k m m 0) (fun k => by unfold laws_eqTxnS.f; rw [if_pos rfl]) ?_
  refine eqG_ev (L := laws_eqTxnS.l0) m ?_ ?_
  · intro i hi h
    refine Ev.step (f := fun k => (laws_eqTxn.f k m[i].f0 m[i].f1 m[i].f2 m[i].f0 m[i].f1 m[i].f2).bind fun t => if t = true then laws_eqTxnS.l0 k m m ((i + 1 : Nat) : Int) else some false) (fun k => ?_) ?_
    · simp only [laws_eqTxnS.l0]
      rw [if_pos (by omega), if_pos (by omega), if_pos (by omega), rd37 m i hi, w64 (by omega) (by omega)]
      rfl
    · have := hg2 _ (List.getElem_mem hi)
      refine (eqT _ _ _ this.1 this.2).bind ?_
      exact Ev.congr (fun k => if_pos rfl) h
  · exact Ev.step (f := fun _ => some true) (fun k => by simp only [laws_eqTxnS.l0]; rw [if_neg (by omega)]) (Ev.now _)
def revd (l : List S37) (a b : Int) : Bool := decide (0 ≤ a ∧ a < l.length) && (l.drop (a.toNat + 1)).any (fun t => decide (b ∈ t.f2))
theorem spec_loop (l : List S37) (b : Int) (hl : l.length ≤ 1048576) (hg : ∀ y ∈ l, y.f2.length ≤ 1048576) (i : Nat) (hi : i ≤ l.length) : Ev (fun k => spec_Revoked.l0 k l b (i : Int)) ((l.drop i).any (fun t => decide (b ∈ t.f2))) := by
  have key : ∀ d i : Nat, i + d = l.length → Ev (fun k => spec_Revoked.l0 k l b (i : Int)) ((l.drop i).any (fun t => decide (b ∈ t.f2))) := by
    intro d
    induction d with
    | zero =>
      intro i hi
      rw [List.drop_of_length_le (by omega)]
      exact Ev.step (f := fun _ => some false) (fun k => by simp only [spec_Revoked.l0]; rw [if_neg (by omega)]) (Ev.now _)
    | succ d ih =>
      intro i hi
      have h := ih (i + 1) (by omega)
      have hi' : i < l.length := by omega
      have hw : wrap64 ((i : Int) + 1) = ((i + 1 : Nat) : Int) := by rw [w64 (by omega) (by omega)]; rfl
      rw [List.drop_eq_getElem_cons hi', List.any_cons]
      refine Ev.step (f := fun k => (spec_l4Has.f k l[i].f2 b).bind fun t => if t = true then some true else spec_Revoked.l0 k l b ((i + 1 : Nat) : Int)) (fun k => ?_) ?_
      · simp only [spec_Revoked.l0]; rw [if_pos (by omega), if_pos (by omega), rd37 l i hi', hw]
      · refine (has_ev _ b (hg _ (List.getElem_mem _))).bind ?_
        by_cases c : b ∈ l[i].f2
        · rw [decide_eq_true c, Bool.true_or]; exact Ev.congr (fun k => if_pos rfl) (Ev.now _)
        · rw [decide_eq_false c, Bool.false_or]; exact Ev.congr (fun k => if_neg (by decide)) h
  exact key (l.length - i) i (by omega)
theorem impl_in_loop (m : List S37) (n : Int) (j : Int) (v : List Int) (b : Int) (r : Bool) (hv : v.length ≤ 1048576) (h1 : b ∈ v → r = true) (h2 : b ∉ v → Ev (fun k => impl_Revoked.l0 k b m n (wrap64 (j + 1))) r) :
    Ev (fun k => impl_Revoked.l1 k b m n j v (v.length : Int) 0) r := by
  have := down (P := fun i => (b ∈ v.drop i → r = true) → (b ∉ v.drop i → Ev (fun k => impl_Revoked.l0 k b m n (wrap64 (j + 1))) r) → Ev (fun k => impl_Revoked.l1 k b m n j v (v.length : Int) (i : Int)) r) v.length ?_ ?_
  · exact this h1 h2
  · intro _ h
    rw [List.drop_length] at h
    exact Ev.step (fun k => by simp only [impl_Revoked.l1]; rw [if_neg (by omega)]) (h (by simp))
  · intro i hi ih h1 h2
    have hw : wrap64 ((i : Int) + 1) = ((i + 1 : Nat) : Int) := by rw [w64 (by omega) (by omega)]; rfl
    rw [List.drop_eq_getElem_cons hi] at h1 h2
    by_cases c : v[i] = b
    · rw [h1 (by rw [c]; exact List.mem_cons_self)]
      exact Ev.step (f := fun _ => some true) (fun k => by simp only [impl_Revoked.l1]; rw [if_pos (by omega), if_pos (by omega), if_pos (by omega), rd_nat v i hi, if_pos c]) (Ev.now _)
    · refine Ev.step (fun k => by simp only [impl_Revoked.l1]; rw [if_pos (by omega), if_pos (by omega), if_pos (by omega), rd_nat v i hi, if_neg c, hw]) (ih (fun h => h1 (List.mem_cons_of_mem _ h)) (fun h => h2 (fun h' => ?_)))
      rcases List.mem_cons.1 h' with h' | h'
      · exact c h'.symm
      · exact h h'
theorem impl_loop (m : List S37) (b : Int) (hl : m.length ≤ 1048576) (hg : ∀ y ∈ m, y.f2.length ≤ 1048576) : Ev (fun k => impl_Revoked.l0 k b m (m.length : Int) 0) (m.any (fun t => decide (b ∈ t.f2))) := by
  have := down (P := fun i => Ev (fun k => impl_Revoked.l0 k b m (m.length : Int) (i : Int)) ((m.drop i).any (fun t => decide (b ∈ t.f2)))) m.length ?_ ?_
  · simpa using this
  · rw [List.drop_length]
    exact Ev.step (f := fun _ => some false) (fun k => by simp only [impl_Revoked.l0]; rw [if_neg (by omega)]) (Ev.now _)
  · intro i hi h
    have hw : wrap64 ((i : Int) + 1) = ((i + 1 : Nat) : Int) := by rw [w64 (by omega) (by omega)]; rfl
    rw [List.drop_eq_getElem_cons hi, List.any_cons]
    refine Ev.step (f := fun k => impl_Revoked.l1 k b m (m.length : Int) (i : Int) m[i].f2 (m[i].f2.length : Int) 0) (fun k => ?_) ?_
    · simp only [impl_Revoked.l0]; rw [if_pos (by omega), if_pos (by omega), if_pos (by omega), rd37 m i hi]
    · refine impl_in_loop m _ (i : Int) m[i].f2 b _ (hg _ (List.getElem_mem _)) (fun c => by rw [decide_eq_true c, Bool.true_or]) (fun c => ?_)
      rw [decide_eq_false c, Bool.false_or, hw]; exact h
theorem both (l : List S37) (a b : Int) (hl : l.length ≤ 1048576) (hg : ∀ y ∈ l, y.f2.length ≤ 1048576) : Ev (fun k => spec_Revoked.f k l a b) (revd l a b) ∧ Ev (fun k => impl_Revoked.f k l a b) (revd l a b) := by
  have st : Ev (fun k => spec_Revoked.j0 k l a b true) false := Ev.step (f := fun _ => some false) (fun k => by simp only [spec_Revoked.j0]; rw [if_pos trivial]) (Ev.now _)
  have it : Ev (fun k => impl_Revoked.j0 k l a b true) false := Ev.step (f := fun _ => some false) (fun k => by simp only [impl_Revoked.j0]; rw [if_pos trivial]) (Ev.now _)
  by_cases c : a < 0
  · rw [show revd l a b = false by unfold revd; rw [decide_eq_false (by omega)]; rfl]
    exact ⟨Ev.congr (fun k => by unfold spec_Revoked.f; rw [if_pos c]) st, Ev.congr (fun k => by unfold impl_Revoked.f; rw [if_pos c]) it⟩
  by_cases d : a ≥ (l.length : Int)
  · rw [show revd l a b = false by unfold revd; rw [decide_eq_false (by omega)]; rfl]
    exact ⟨Ev.congr (fun k => by unfold spec_Revoked.f; rw [if_neg c, decide_eq_true d]) st, Ev.congr (fun k => by unfold impl_Revoked.f; rw [if_neg c, decide_eq_true d]) it⟩
  have hw : wrap64 (a + 1) = ((a.toNat + 1 : Nat) : Int) := by rw [w64 (by omega) (by omega)]; omega
  rw [show revd l a b = (l.drop (a.toNat + 1)).any (fun t => decide (b ∈ t.f2)) by unfold revd; rw [decide_eq_true (by omega), Bool.true_and]]
  constructor
  · refine Ev.congr (fun k => by unfold spec_Revoked.f; rw [if_neg c, decide_eq_false d]) ?_
    exact Ev.step (fun k => by simp only [spec_Revoked.j0]; rw [if_neg (by decide), hw]) (spec_loop l b hl hg (a.toNat + 1) (by omega))
  · refine Ev.congr (fun k => by unfold impl_Revoked.f; rw [if_neg c, decide_eq_false d]) ?_
    refine Ev.step (fun k => by simp only [impl_Revoked.j0, Option.bind_some]; rw [if_neg (by decide), hw, if_pos (by omega), if_pos (by omega), Int.toNat_natCast]) ?_
    exact impl_loop (l.drop (a.toNat + 1)) b (by rw [List.length_drop]; omega) (fun y hy => hg y (List.mem_of_mem_drop hy))
end RV
theorem FnExactRevoked (l : List S32) (a b : Int) (g0 : l.length ≤ maxLen ∧ ∀ y ∈ l, (Lit.int .i64 y.f0).wf = true ∧ (y.f1.length ≤ maxLen ∧ ∀ z ∈ y.f1, (Lit.int .i64 z.f0).wf = true ∧ (z.f1.length ≤ maxLen ∧ ∀ u ∈ z.f1, (Lit.int .u8 u).wf = true)) ∧ (y.f2.length ≤ maxLen ∧ ∀ z ∈ y.f2, (Lit.int .i64 z).wf = true)) (_ : (Lit.int .i64 a).wf = true) (_ : (Lit.int .i64 b).wf = true) : ∃ k, laws_FnExactRevoked.f k l a b = some true := by
  obtain ⟨z, hz, hz2⟩ := RV.szXS l g0
  refine Ev.rounds (Ev.congr (fun k => by unfold laws_FnExactRevoked.f; rfl) ?_)
  refine hz.bind ?_
  by_cases c : z < 0
  · exact Ev.congr (fun k => if_pos c) (Ev.now true)
  refine Ev.congr (fun k => if_neg c) ?_
  have hf := hz2.resolve_left c
  have t := RV.toXS l hf
  have hg2 : ∀ y ∈ l.map RV.toX, y.f2.length ≤ 1048576 := fun y hy => by
    obtain ⟨z, hz, rfl⟩ := List.mem_map.1 hy
    exact (hf.2 z hz).2
  obtain ⟨s, i⟩ := RV.both (l.map RV.toX) a b (by simpa using hf.1) hg2
  refine t.bind ?_
  refine s.bind ?_
  refine t.bind ?_
  refine i.bind ?_
  refine Ev.congr (fun k => if_neg (by simp)) ?_
  refine t.bind ?_
  refine (RV.eqXS l hf).bind ?_
  exact Ev.congr (fun k => if_pos rfl) (Ev.now true)
end Go.Proofs.Ytejomghgmdmebaa.Pure
