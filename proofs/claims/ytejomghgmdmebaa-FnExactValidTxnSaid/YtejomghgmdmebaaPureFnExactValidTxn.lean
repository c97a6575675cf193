/- FnExactValidTxn: at every transaction the program's ValidTxn answers as the reference's, and the transaction stays as it was. -/
import Derived.Test.YtejomghgmdmebaaPFnExactValidTxnx
import Derived.Test.YtejomghgmdmebaaHlp2
namespace Go.Proofs.Ytejomghgmdmebaa.Pure
open Go.RowKit Go.Proofs.Ytejomghgmdmebaa.PFnExactValidTxn Go.Proofs.YtejomghgmdmebaaW.PrintWords Go.Proofs.YtejomghgmdmebaaW.PrintLast Go.Proofs.YtejomghgmdmebaaW.PrintMore Go.Proofs.Ytejomghgmdmebaa.Hlp
namespace VT
theorem rd78 (l : List S78) (i : Nat) (h : i < l.length) : rd_T78 l (i : Int) = l[i] := by simp [rd_T78, h]
theorem rd62 (l : List S62) (i : Nat) (h : i < l.length) : rd_T62 l (i : Int) = l[i] := by simp [rd_T62, h]
def toH (e : S78) : S62 := ⟨e.f0, e.f1⟩
def goodH (l : List S78) : Prop := l.length ≤ maxLen ∧ ∀ y ∈ l, (Lit.int .i64 y.f0).wf = true ∧ (y.f1.length ≤ maxLen ∧ ∀ z ∈ y.f1, (Lit.int .u8 z).wf = true)
def goodI (l : List Int) : Prop := l.length ≤ maxLen ∧ ∀ y ∈ l, (Lit.int .i64 y).wf = true
/-- Lengths within the budget. -/
def fitH (l : List S78) : Prop := l.length ≤ 1048576 ∧ ∀ y ∈ l, y.f1.length ≤ 1048576
theorem mem_sum (l : List S78) (y : S78) (h : y ∈ l) : y.f1.length ≤ (l.map (fun e => e.f1.length)).sum := by
  induction l with
  | nil => cases h
  | cons a r ih =>
    rw [List.map_cons, List.sum_cons]
    rcases List.mem_cons.1 h with rfl | h
    · omega
    · have := ih h; omega
theorem szHS (l : List S78) (b : Int) (h0 : 0 ≤ b) (hb : b ≤ 1048576) (hl : goodH l) : ∃ r, Ev (fun k => laws_szHomeS.f k l b) r ∧ (r < 0 ∨ (0 ≤ r ∧ r ≤ b ∧ fitH l ∧ l.length + r ≤ b)) := by
  have hm : maxLen ≤ 9223372036854775807 := by decide
  obtain ⟨hl, hg⟩ := hl
  by_cases c : (wrap64 (b - (l.length : Int))) < 0
  · exact ⟨-1, Ev.congr (fun k => by unfold laws_szHomeS.f; rw [if_pos c]) (Ev.now _), Or.inl (by decide)⟩
  · rw [w64 (by omega) (by omega)] at c
    have hl6 : l.length ≤ 1048576 := by omega
    obtain ⟨r, h, hr⟩ := szG_ev (fun e : S78 => e.f1.length) (L := laws_szHomeS.l0) l (by
      intro i s hi h0 hs
      have hy := (hg l[i] (List.getElem_mem _)).2.1
      have hw : wrap64 ((i : Int) + 1) = ((i + 1 : Nat) : Int) := by rw [w64 (by omega) (by omega)]; rfl
      by_cases d : (l[i].f1.length : Int) ≤ s
      · refine Or.inr ⟨d, fun r h => Ev.step (fun k => ?_) h⟩
        simp only [laws_szHomeS.l0, laws_szHome.f, laws_szByteS.f]
        rw [if_pos (by omega), if_pos (by omega), rd78 l i hi, w64 (x := s - _) (by omega) (by omega), if_neg (by omega), Option.bind_some, if_neg (by omega), Option.bind_some, if_neg (by omega), hw]
      · refine Or.inl ⟨-1, by decide, Ev.step (f := fun _ => some (-1)) (fun k => ?_) (Ev.now _)⟩
        simp only [laws_szHomeS.l0, laws_szHome.f, laws_szByteS.f]
        rw [if_pos (by omega), if_pos (by omega), rd78 l i hi, w64 (x := s - _) (by omega) (by omega), if_pos (by omega), Option.bind_some, if_pos (by omega), Option.bind_some, if_pos (by omega)])
      (fun s => Ev.step (f := fun _ => some s) (fun k => by simp only [laws_szHomeS.l0]; rw [if_neg (by omega)]) (Ev.now _)) (b - (l.length : Int)) (by omega) (by omega)
    refine ⟨r, Ev.congr (fun k => by unfold laws_szHomeS.f; rw [w64 (by omega) (by omega), if_neg (by omega)]) h, ?_⟩
    rcases hr with h | ⟨h1, h2⟩
    · exact Or.inl h
    · refine Or.inr ⟨h1, by omega, ⟨hl6, fun y hy => ?_⟩, by omega⟩
      have := mem_sum l y hy; omega
theorem toHome_ev (a : Int) (d : List Int) (hd : d.length ≤ 1048576) : Ev (fun k => laws_toHome.f k a d) (a, d) := by
  refine Ev.congr (fun k => by unfold laws_toHome.f; rfl) ?_
  refine (toS_ev (F := laws_toByteS.f) (fun _ _ => rfl) (fun _ _ _ _ => rfl) d (by omega) (by omega)).bind ?_
  exact Ev.now _
theorem toHS (l : List S78) (hf : fitH l) : Ev (fun k => laws_toHomeS.f k l) (l.map toH) := by
  obtain ⟨hl, hg⟩ := hf
  refine Ev.congr (f := fun k => laws_toHomeS.l0 k l (List.replicate l.length z62) 0) (fun k => by unfold laws_toHomeS.f; rw [if_pos (by omega), if_pos (by simp; omega)]; simp) ?_
  refine fill_ev (L := fun k x i => laws_toHomeS.l0 k l x i) l toH ?_ ?_ _ (by simp)
  · intro i x hi hx r h
    refine Ev.step (f := fun k => (laws_toHome.f k l[i].f0 l[i].f1).bind fun t => laws_toHomeS.l0 k l (x.set i (⟨t.1, t.2⟩ : S62)) ((i + 1 : Nat) : Int)) (fun k => ?_) ?_
    · simp only [laws_toHomeS.l0]
      rw [if_pos (by omega), if_pos (by omega), w64 (by omega) (by omega), rd78 l i hi, Int.toNat_natCast]
      congr 1
      funext t
      rw [if_pos (by omega)]; rfl
    · exact (toHome_ev _ _ (hg _ (List.getElem_mem _))).bind h
  · intro x hx
    exact Ev.step (f := fun _ => some x) (fun k => by simp only [laws_toHomeS.l0]; rw [if_neg (by omega)]) (Ev.now _)
theorem eqHome_ev (a : Int) (d : List Int) (hd : d.length ≤ 1048576) : Ev (fun k => laws_eqHome.f k a d a d) true := by
  refine Ev.congr (fun k => by unfold laws_eqHome.f; rw [if_pos rfl]) ?_
  refine (eqS_ev (F := laws_eqByteS.f) (fun _ _ _ => rfl) (fun _ _ _ _ => rfl) d (by omega)).bind ?_
  exact Ev.congr (fun k => if_pos rfl) (Ev.now true)
theorem eqHS (l : List S62) (hl : l.length ≤ 1048576) (hg : ∀ y ∈ l, y.f1.length ≤ 1048576) : Ev (fun k => laws_eqHomeS.f k l l) true := by
  refine Ev.congr (f := fun k => laws_eqHomeS.l0 k l l 0) (fun k => by unfold laws_eqHomeS.f; rw [if_pos rfl]) ?_
  refine eqG_ev (L := laws_eqHomeS.l0) l ?_ ?_
  · intro i hi h
    refine Ev.step (f := fun k => (laws_eqHome.f k l[i].f0 l[i].f1 l[i].f0 l[i].f1).bind fun t => if t = true then laws_eqHomeS.l0 k l l ((i + 1 : Nat) : Int) else some false) (fun k => ?_) ?_
    · simp only [laws_eqHomeS.l0]
      rw [if_pos (by omega), if_pos (by omega), if_pos (by omega), rd62 l i hi, w64 (by omega) (by omega)]
      rfl
    · refine (eqHome_ev _ _ (hg _ (List.getElem_mem _))).bind ?_
      exact Ev.congr (fun k => if_pos rfl) h
  · exact Ev.step (f := fun _ => some true) (fun k => by simp only [laws_eqHomeS.l0]; rw [if_neg (by omega)]) (Ev.now _)
theorem fit_map (l : List S78) (hf : fitH l) : (l.map toH).length ≤ 1048576 ∧ ∀ y ∈ l.map toH, y.f1.length ≤ 1048576 := by
  refine ⟨by simpa using hf.1, fun y hy => ?_⟩
  obtain ⟨z, hz, rfl⟩ := List.mem_map.1 hy
  exact hf.2 z hz
/-- A whole transaction. -/
theorem szT (a : Int) (l : List S78) (v : List Int) (b : Int) (h0 : 0 ≤ b) (hb : b ≤ 1048576) (hl : goodH l) (hv : goodI v) : ∃ r, Ev (fun k => laws_szTxn.f k a l v b) r ∧ (r < 0 ∨ (0 ≤ r ∧ r ≤ b ∧ fitH l ∧ v.length ≤ 1048576)) := by
  have hm : maxLen ≤ 9223372036854775807 := by decide
  obtain ⟨r, h, hr⟩ := szHS l b h0 hb hl
  by_cases c : r < 0
  · exact ⟨-1, Ev.congr (fun k => by unfold laws_szTxn.f; rfl) (h.bind (Ev.congr (fun k => if_pos c) (Ev.now _))), Or.inl (by decide)⟩
  · obtain ⟨h1, h2, h3, h4⟩ := hr.resolve_left c
    have hv1 := hv.1
    by_cases d : (wrap64 (r - (v.length : Int))) < 0
    · refine ⟨-1, Ev.congr (fun k => by unfold laws_szTxn.f; rfl) (h.bind (Ev.congr (fun k => if_neg c) ?_)), Or.inl (by decide)⟩
      unfold laws_szInt64S.f
      exact Ev.congr (fun k => by rw [if_pos d, Option.bind_some, if_pos (by decide)]) (Ev.now (-1))
    · refine ⟨wrap64 (r - (v.length : Int)), Ev.congr (fun k => by unfold laws_szTxn.f; rfl) (h.bind (Ev.congr (fun k => if_neg c) ?_)), Or.inr ?_⟩
      · unfold laws_szInt64S.f
        exact Ev.congr (fun k => by rw [if_neg d, Option.bind_some, if_neg d]) (Ev.now _)
      · rw [w64 (by omega) (by omega)] at d ⊢
        exact ⟨by omega, by omega, h3, by omega⟩
theorem toT (a : Int) (l : List S78) (v : List Int) (hl : fitH l) (hv : v.length ≤ 1048576) : Ev (fun k => laws_toTxn.f k a l v) (a, l.map toH, v) := by
  refine Ev.congr (fun k => by unfold laws_toTxn.f; rfl) ?_
  refine (toHS l hl).bind ?_
  refine (toS_ev (F := laws_toInt64S.f) (fun _ _ => rfl) (fun _ _ _ _ => rfl) v (by omega) (by omega)).bind ?_
  exact Ev.now _
theorem eqT (a : Int) (l : List S62) (v : List Int) (hl : l.length ≤ 1048576 ∧ ∀ y ∈ l, y.f1.length ≤ 1048576) (hv : v.length ≤ 1048576) : Ev (fun k => laws_eqTxn.f k a l v a l v) true := by
  refine Ev.congr (fun k => by unfold laws_eqTxn.f; rw [if_pos rfl]) ?_
  refine (eqHS l hl.1 hl.2).bind ?_
  refine Ev.congr (fun k => if_pos rfl) ?_
  refine (eqS_ev (F := laws_eqInt64S.f) (fun _ _ _ => rfl) (fun _ _ _ _ => rfl) v (by omega)).bind ?_
  exact Ev.congr (fun k => if_pos rfl) (Ev.now true)
theorem has_ev (v : List Int) (x : Int) (hv : v.length ≤ 1048576) : Ev (fun k => spec_l4Has.f k v x) (decide (x ∈ v)) := by
  have := down (P := fun i => Ev (fun k => spec_l4Has.l0 k v x (i : Int)) (decide (x ∈ v.drop i))) v.length ?_ ?_
  · simpa [spec_l4Has.f] using this
  · rw [List.drop_length]
    exact Ev.step (f := fun _ => some (decide (x ∈ ([] : List Int)))) (fun k => by simp only [spec_l4Has.l0]; rw [if_neg (by omega)]; simp) (Ev.now _)
  · intro i hi h
    have hw : wrap64 ((i : Int) + 1) = ((i + 1 : Nat) : Int) := by rw [w64 (by omega) (by omega)]; rfl
    rw [List.drop_eq_getElem_cons hi]
    by_cases c : v[i] = x
    · rw [decide_eq_true (by rw [c]; exact List.mem_cons_self)]
      exact Ev.step (f := fun _ => some true) (fun k => by simp only [spec_l4Has.l0]; rw [if_pos (by omega), if_pos (by omega), rd_nat v i hi, if_pos c]) (Ev.now _)
    · have e : decide (x ∈ v[i] :: v.drop (i + 1)) = decide (x ∈ v.drop (i + 1)) := by
        rw [decide_eq_decide]
        exact ⟨fun h => (List.mem_cons.1 h).resolve_left (Ne.symm c), List.mem_cons_of_mem _⟩
      rw [e]
      exact Ev.step (fun k => by simp only [spec_l4Has.l0]; rw [if_pos (by omega), if_pos (by omega), rd_nat v i hi, if_neg c, hw]) h
theorem rising_loops (v : List Int) (hv : v.length ≤ 1048576) : ∃ r, Ev (fun k => spec_l4Rising.l0 k v ((0 : Nat) : Int)) r ∧ Ev (fun k => impl_rising.l0 k v v (v.length : Int) ((0 : Nat) : Int)) r := by
  refine down (P := fun i => ∃ r, Ev (fun k => spec_l4Rising.l0 k v (i : Int)) r ∧ Ev (fun k => impl_rising.l0 k v v (v.length : Int) (i : Int)) r) v.length ?_ ?_
  · exact ⟨true, Ev.step (f := fun _ => some true) (fun k => by simp only [spec_l4Rising.l0]; rw [if_neg (by omega)]) (Ev.now _), Ev.step (f := fun _ => some true) (fun k => by simp only [impl_rising.l0]; rw [if_neg (by omega)]) (Ev.now _)⟩
  · intro i hi ⟨r, h1, h2⟩
    have hw : wrap64 ((i : Int) + 1) = ((i + 1 : Nat) : Int) := by rw [w64 (by omega) (by omega)]; rfl
    have hw1 : wrap64 ((i : Int) - 1) = (i : Int) - 1 := by rw [w64 (by omega) (by omega)]
    by_cases g : 0 ≤ rd v (i : Int) ∧ rd v (i : Int) < 2048
    · by_cases z : (i : Int) > 0
      · by_cases c : rd v ((i : Int) - 1) ≥ rd v (i : Int)
        · refine ⟨false, Ev.step (f := fun _ => some false) (fun k => ?_) (Ev.now _), Ev.step (f := fun _ => some false) (fun k => ?_) (Ev.now _)⟩
          · simp only [spec_l4Rising.l0, spec_l3GoodBlock.f]
            rw [if_pos (by omega), if_pos (by omega), if_pos g.1, Option.bind_some, if_pos (by simp; omega), if_pos z, hw1, if_pos (by omega), if_pos (by omega), if_pos c]
          · simp only [impl_rising.l0, impl_in.f]
            rw [if_pos (by omega), if_pos (by omega), if_pos (by omega), if_pos g.1, Option.bind_some, if_pos (by simp; omega), if_pos z, hw1, if_pos (by omega), if_pos (by omega), if_pos c]
        · refine ⟨r, Ev.step (fun k => ?_) h1, Ev.step (fun k => ?_) h2⟩
          · simp only [spec_l4Rising.l0, spec_l3GoodBlock.f]
            rw [if_pos (by omega), if_pos (by omega), if_pos g.1, Option.bind_some, if_pos (by simp; omega), if_pos z, hw1, if_pos (by omega), if_pos (by omega), if_neg c, hw]
          · simp only [impl_rising.l0, impl_in.f]
            rw [if_pos (by omega), if_pos (by omega), if_pos (by omega), if_pos g.1, Option.bind_some, if_pos (by simp; omega), if_pos z, hw1, if_pos (by omega), if_pos (by omega), if_neg c, hw]
      · refine ⟨r, Ev.step (fun k => ?_) h1, Ev.step (fun k => ?_) h2⟩
        · simp only [spec_l4Rising.l0, spec_l3GoodBlock.f]
          rw [if_pos (by omega), if_pos (by omega), if_pos g.1, Option.bind_some, if_pos (by simp; omega), if_neg z, hw]
        · simp only [impl_rising.l0, impl_in.f]
          rw [if_pos (by omega), if_pos (by omega), if_pos (by omega), if_pos g.1, Option.bind_some, if_pos (by simp; omega), if_neg z, hw]
    · refine ⟨false, Ev.step (f := fun _ => some false) (fun k => ?_) (Ev.now _), Ev.step (f := fun _ => some false) (fun k => ?_) (Ev.now _)⟩
      · simp only [spec_l4Rising.l0, spec_l3GoodBlock.f]
        rw [if_pos (by omega), if_pos (by omega)]
        by_cases c : rd v (i : Int) ≥ 0
        · rw [if_pos c, Option.bind_some, if_neg (by simp; omega)]
        · rw [if_neg c, Option.bind_some, if_neg (by simp)]
      · simp only [impl_rising.l0, impl_in.f]
        rw [if_pos (by omega), if_pos (by omega), if_pos (by omega)]
        by_cases c : rd v (i : Int) ≥ 0
        · rw [if_pos c, Option.bind_some, if_neg (by simp; omega)]
        · rw [if_neg c, Option.bind_some, if_neg (by simp)]
theorem rising_ev (v : List Int) (hv : v.length ≤ 1048576) : ∃ r, Ev (fun k => spec_l4Rising.f k v) r ∧ Ev (fun k => impl_rising.f k v) r := rising_loops v hv
theorem blocks_ev (l : List S62) (hl : l.length ≤ 1048576) : Ev (fun k => spec_l4HomeBlocks.f k l) (l.map S62.f0) := by
  have := down (P := fun i => Ev (fun k => spec_l4HomeBlocks.l0 k l ((l.take i).map S62.f0) (i : Int)) (l.map S62.f0)) l.length ?_ ?_
  · simpa [spec_l4HomeBlocks.f] using this
  · rw [List.take_length]
    exact Ev.step (f := fun _ => some (l.map S62.f0)) (fun k => by simp only [spec_l4HomeBlocks.l0]; rw [if_neg (by omega)]) (Ev.now _)
  · intro i hi h
    rw [List.take_succ_eq_append_getElem hi, List.map_append] at h
    exact Ev.step (fun k => by simp only [spec_l4HomeBlocks.l0]; rw [if_pos (by omega), if_pos (by omega), if_pos (by simp; omega), rd62 l i hi, w64 (by omega) (by omega)]; rfl) h
def pass (v : List Int) (h : S62) : Bool := decide (h.f1.length = 64) && !decide (h.f0 ∈ v)
theorem spec_pass (a : Int) (l : List S62) (v : List Int) (hl : l.length ≤ 1048576) (hv : v.length ≤ 1048576) : Ev (fun k => spec_ValidTxn.l0 k ((0 : Nat) : Int) a l v) ((l.drop 0).all (pass v)) := by
  refine down (P := fun i => Ev (fun k => spec_ValidTxn.l0 k (i : Int) a l v) ((l.drop i).all (pass v))) l.length ?_ ?_
  · rw [List.drop_length]
    exact Ev.step (f := fun _ => some true) (fun k => by simp only [spec_ValidTxn.l0]; rw [if_neg (by omega)]) (Ev.now _)
  · intro i hi h
    have hw : wrap64 ((i : Int) + 1) = ((i + 1 : Nat) : Int) := by rw [w64 (by omega) (by omega)]; rfl
    rw [List.drop_eq_getElem_cons hi, List.all_cons]
    by_cases c : l[i].f1.length = 64
    · refine Ev.step (f := fun k => (spec_l4Has.f k v l[i].f0).bind fun t => if t = true then some false else spec_ValidTxn.l0 k ((i + 1 : Nat) : Int) a l v) (fun k => ?_) ?_
      · simp only [spec_ValidTxn.l0]
        rw [if_pos (by omega), if_pos (by omega), rd62 l i hi, if_pos (by omega), hw]
      · refine (has_ev v _ hv).bind ?_
        by_cases d : l[i].f0 ∈ v
        · have e : (pass v l[i] && (l.drop (i + 1)).all (pass v)) = false := by simp [pass, d]
          rw [e]; exact Ev.congr (fun k => if_pos (by simpa using d)) (Ev.now _)
        · have e : (pass v l[i] && (l.drop (i + 1)).all (pass v)) = (l.drop (i + 1)).all (pass v) := by simp [pass, d, c]
          rw [e]; exact Ev.congr (fun k => if_neg (by simpa using d)) h
    · have e : (pass v l[i] && (l.drop (i + 1)).all (pass v)) = false := by simp [pass, c]
      rw [e]
      exact Ev.step (f := fun _ => some false) (fun k => by simp only [spec_ValidTxn.l0]; rw [if_pos (by omega), if_pos (by omega), rd62 l i hi, if_neg (by omega)]) (Ev.now _)
theorem impl_in_loop (a : Int) (l : List S62) (v : List Int) (x4 : List Int) (j : Int) (b : Int) (d : List Int) (r : Bool) (hv : v.length ≤ 1048576) (h4 : x4.length ≤ 1048576)
    (h1 : b ∈ v → r = false) (h2 : b ∉ v → Ev (fun k => impl_ValidTxn.l0 k (x4 ++ [b]) l (l.length : Int) (wrap64 (j + 1)) a l v) r) :
    Ev (fun k => impl_ValidTxn.l1 k x4 l (l.length : Int) j v (v.length : Int) ((0 : Nat) : Int) a l v b d) r := by
  have := down (P := fun i => (b ∈ v.drop i → r = false) → (b ∉ v.drop i → Ev (fun k => impl_ValidTxn.l0 k (x4 ++ [b]) l (l.length : Int) (wrap64 (j + 1)) a l v) r) → Ev (fun k => impl_ValidTxn.l1 k x4 l (l.length : Int) j v (v.length : Int) (i : Int) a l v b d) r) v.length ?_ ?_
  · exact this h1 h2
  · intro _ h
    rw [List.drop_length] at h
    exact Ev.step (fun k => by simp only [impl_ValidTxn.l1]; rw [if_neg (by omega), if_pos (by omega)]) (h (by simp))
  · intro i hi ih h1 h2
    have hw : wrap64 ((i : Int) + 1) = ((i + 1 : Nat) : Int) := by rw [w64 (by omega) (by omega)]; rfl
    rw [List.drop_eq_getElem_cons hi] at h1 h2
    by_cases c : v[i] = b
    · rw [h1 (by rw [c]; exact List.mem_cons_self)]
      exact Ev.step (f := fun _ => some false) (fun k => by simp only [impl_ValidTxn.l1]; rw [if_pos (by omega), if_pos (by omega), if_pos (by omega), rd_nat v i hi, if_pos c]) (Ev.now _)
    · refine Ev.step (fun k => by simp only [impl_ValidTxn.l1]; rw [if_pos (by omega), if_pos (by omega), if_pos (by omega), rd_nat v i hi, if_neg c, hw]) (ih (fun h => h1 (List.mem_cons_of_mem _ h)) (fun h => h2 (fun h' => ?_)))
      rcases List.mem_cons.1 h' with h' | h'
      · exact c h'.symm
      · exact h h'
theorem impl_pass (a : Int) (l : List S62) (v : List Int) (rH : Bool) (hH : Ev (fun k => impl_rising.f k (l.map S62.f0)) rH) (hl : l.length ≤ 1048576) (hv : v.length ≤ 1048576) :
    Ev (fun k => impl_ValidTxn.l0 k [] l (l.length : Int) 0 a l v) (rH && l.all (pass v)) := by
  have := down (P := fun i => Ev (fun k => impl_ValidTxn.l0 k ((l.take i).map S62.f0) l (l.length : Int) (i : Int) a l v) (rH && (l.drop i).all (pass v))) l.length ?_ ?_
  · simpa using this
  · rw [List.drop_length, List.take_length]
    refine Ev.step (f := fun k => (impl_rising.f k (l.map S62.f0)).bind fun t => some t) (fun k => by simp only [impl_ValidTxn.l0]; rw [if_neg (by omega)]) ?_
    refine hH.bind ?_
    simpa using Ev.now (rH)
  · intro i hi h
    have hw : wrap64 ((i : Int) + 1) = ((i + 1 : Nat) : Int) := by rw [w64 (by omega) (by omega)]; rfl
    rw [List.drop_eq_getElem_cons hi, List.all_cons]
    by_cases c : l[i].f1.length = 64
    · refine Ev.step (f := fun k => impl_ValidTxn.l1 k ((l.take i).map S62.f0) l (l.length : Int) (i : Int) v (v.length : Int) 0 a l v l[i].f0 l[i].f1) (fun k => ?_) ?_
      · simp only [impl_ValidTxn.l0]
        rw [if_pos (by omega), if_pos (by omega), if_pos (by omega), rd62 l i hi, if_pos (by omega)]
      · refine impl_in_loop a l v _ (i : Int) _ _ _ hv (by simp; omega) (fun d => by simp [pass, d]) (fun d => ?_)
        have e : (rH && (pass v l[i] && (l.drop (i + 1)).all (pass v))) = (rH && (l.drop (i + 1)).all (pass v)) := by simp [pass, d, c]
        rw [e, hw]
        rw [List.take_succ_eq_append_getElem hi, List.map_append] at h
        exact h
    · have e : (rH && (pass v l[i] && (l.drop (i + 1)).all (pass v))) = false := by simp [pass, c]
      rw [e]
      exact Ev.step (f := fun _ => some false) (fun k => by simp only [impl_ValidTxn.l0]; rw [if_pos (by omega), if_pos (by omega), if_pos (by omega), rd62 l i hi, if_neg (by omega)]) (Ev.now _)
theorem both (a : Int) (l : List S62) (v : List Int) (hl : l.length ≤ 1048576) (hv : v.length ≤ 1048576) : ∃ r, Ev (fun k => spec_ValidTxn.f k a l v) r ∧ Ev (fun k => impl_ValidTxn.f k a l v) r ∧ (r = true → 1 ≤ a ∧ a ≤ 4294967295 ∧ 1 ≤ l.length + v.length ∧ l.length + v.length ≤ 128 ∧ l.all (pass v) = true) := by
  have hn : wrap64 ((l.length : Int) + (v.length : Int)) = (l.length : Int) + (v.length : Int) := w64 (by omega) (by omega)
  have sf : Ev (fun k => spec_ValidTxn.j0 k true a l v) false := Ev.step (f := fun _ => some false) (fun k => by simp only [spec_ValidTxn.j0]; rw [if_pos trivial]) (Ev.now _)
  have jf : Ev (fun k => impl_ValidTxn.j0 k true a l v) false := Ev.step (f := fun _ => some false) (fun k => by simp only [impl_ValidTxn.j0]; rw [if_pos trivial]) (Ev.now _)
  by_cases hg : 1 ≤ a ∧ a ≤ 4294967295
  · have sg : spec_l3GoodSeq.f a = some true := by unfold spec_l3GoodSeq.f; rw [if_pos hg.1]; simp [hg.2]
    have ig : impl_in.f a 1 4294967295 = some true := by unfold impl_in.f; rw [if_pos hg.1]; simp [hg.2]
    by_cases c1 : (l.length : Int) + (v.length : Int) < 1
    · refine ⟨false, Ev.congr (fun k => by unfold spec_ValidTxn.f; rw [sg, Option.bind_some, if_pos rfl, hn, if_pos c1]) sf, Ev.congr (fun k => by unfold impl_ValidTxn.f; rw [hn, if_pos c1]) jf, by simp⟩
    · by_cases c2 : (l.length : Int) + (v.length : Int) > 128
      · refine ⟨false, Ev.congr (fun k => by unfold spec_ValidTxn.f; rw [sg, Option.bind_some, if_pos rfl, hn, if_neg c1, decide_eq_true c2]) sf, Ev.congr (fun k => by unfold impl_ValidTxn.f; rw [hn, if_neg c1, if_pos c2]) jf, by simp⟩
      · obtain ⟨rR, s1, i1⟩ := rising_ev v hv
        obtain ⟨rH, s2, i2⟩ := rising_ev (l.map S62.f0) (by simpa using hl)
        refine ⟨rR && (rH && l.all (pass v)), ?_, ?_, ?_⟩
        · refine Ev.congr (fun k => by unfold spec_ValidTxn.f; rw [sg, Option.bind_some, if_pos rfl, hn, if_neg c1, decide_eq_false c2]) ?_
          refine Ev.step (fun k => by simp only [spec_ValidTxn.j0]; rw [if_neg (by decide)]) ?_
          refine (blocks_ev l hl).bind ?_
          refine s2.bind ?_
          refine s1.bind ?_
          cases rH with
          | true =>
            refine Ev.congr (fun k => if_pos rfl) ?_
            cases rR with
            | true =>
              refine Ev.step (fun k => by simp only [spec_ValidTxn.j1]; rw [if_neg (by decide)]) ?_
              simpa using spec_pass a l v hl hv
            | false => exact Ev.step (f := fun _ => some false) (fun k => by simp only [spec_ValidTxn.j1]; rw [if_pos (by decide)]) (by simpa using Ev.now false)
          | false =>
            refine Ev.congr (fun k => if_neg (by decide)) ?_
            exact Ev.step (f := fun _ => some false) (fun k => by simp only [spec_ValidTxn.j1]; rw [if_pos (by decide)]) (by simpa using Ev.now false)
        · refine Ev.congr (fun k => by unfold impl_ValidTxn.f; rw [hn, if_neg c1, if_neg c2, ig, Option.bind_some, if_pos rfl]) ?_
          refine i1.bind ?_
          cases rR with
          | true =>
            refine Ev.step (fun k => by simp only [impl_ValidTxn.j0]; rw [if_neg (by decide)]) ?_
            simpa using impl_pass a l v rH i2 hl hv
          | false => exact Ev.step (f := fun _ => some false) (fun k => by simp only [impl_ValidTxn.j0]; rw [if_pos (by decide)]) (by simpa using Ev.now false)
        · intro h
          simp only [Bool.and_eq_true] at h
          exact ⟨hg.1, hg.2, by omega, by omega, h.2.2⟩
  · have sg : spec_l3GoodSeq.f a = some false := by
      unfold spec_l3GoodSeq.f
      by_cases c : a ≥ 1
      · rw [if_pos c]; simp; omega
      · rw [if_neg c]
    have ig : impl_in.f a 1 4294967295 = some false := by
      unfold impl_in.f
      by_cases c : a ≥ 1
      · rw [if_pos c]; simp; omega
      · rw [if_neg c]
    refine ⟨false, Ev.congr (fun k => by unfold spec_ValidTxn.f; rw [sg, Option.bind_some, if_neg (by decide)]) sf, ?_, by simp⟩
    by_cases c1 : (l.length : Int) + (v.length : Int) < 1
    · exact Ev.congr (fun k => by unfold impl_ValidTxn.f; rw [hn, if_pos c1]) jf
    · by_cases c2 : (l.length : Int) + (v.length : Int) > 128
      · exact Ev.congr (fun k => by unfold impl_ValidTxn.f; rw [hn, if_neg c1, if_pos c2]) jf
      · exact Ev.congr (fun k => by unfold impl_ValidTxn.f; rw [hn, if_neg c1, if_neg c2, ig, Option.bind_some, if_neg (by decide)]) jf
end VT
theorem FnExactValidTxn (a : Int) (l : List S78) (v : List Int) (_ : (Lit.int .i64 a).wf = true) (g1 : l.length ≤ maxLen ∧ ∀ y ∈ l, (Lit.int .i64 y.f0).wf = true ∧ (y.f1.length ≤ maxLen ∧ ∀ z ∈ y.f1, (Lit.int .u8 z).wf = true)) (g2 : v.length ≤ maxLen ∧ ∀ y ∈ v, (Lit.int .i64 y).wf = true) : ∃ k, laws_FnExactValidTxn.f k a l v = some true := by
  obtain ⟨z, hz, hz2⟩ := VT.szT a l v 1048576 (by omega) (by omega) g1 g2
  refine Ev.rounds (Ev.congr (fun k => by unfold laws_FnExactValidTxn.f; rfl) ?_)
  refine hz.bind ?_
  by_cases c : z < 0
  · exact Ev.congr (fun k => if_pos c) (Ev.now true)
  refine Ev.congr (fun k => if_neg c) ?_
  obtain ⟨_, _, hf, hv⟩ := hz2.resolve_left c
  have t := VT.toT a l v hf hv
  have fm := VT.fit_map l hf
  obtain ⟨r, s, i, _⟩ := VT.both a (l.map VT.toH) v fm.1 hv
  refine t.bind ?_
  refine s.bind ?_
  refine t.bind ?_
  refine i.bind ?_
  refine Ev.congr (fun k => if_neg (by simp)) ?_
  refine t.bind ?_
  refine (VT.eqT a (l.map VT.toH) v fm hv).bind ?_
  exact Ev.congr (fun k => if_pos rfl) (Ev.now true)
end Go.Proofs.Ytejomghgmdmebaa.Pure
