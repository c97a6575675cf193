import Derived.Test.YtkehfdadplpaeaaDoorVPLWWords
import Derived.Test.YtkehfdadplpaeaaDoorVPLWMore
import Derived.Test.YtkehfdadplpaeaaDoorVPLWKept
import Derived.Laws.IdiomStrings
import Derived.Laws.IdiomCopy
import Derived.Lib.AppendStr
/- A row of bytes of the call's own whose block may bear the run-time's mark behind its last cell ('[]byte(text)'): read, stored into, cut, appended to. -/
namespace Go.Proofs.YtkehfdadplpaeaaDoor.MK
open Go.RowKit Go.Proofs.YtkehfdadplpaeaaDoorW.PrintWords
set_option linter.unusedVariables false

def R (e : Nat) (w : World) (base : Nat) (ok : Nat → Prop) (v : Value) (xs : List Int) : Prop :=
  (v = .slice none 0 0 ∧ xs = []) ∨
  ∃ g cap cur fr, v = .slice (some ⟨g, 0, none⟩) xs.length cap ∧ ok g ∧ base ≤ g ∧ w.heap[g]? = some (.cells cur e fr) ∧ (fr = (0, 0) ∨ cur.size ≤ fr.1) ∧ xs.length ≤ cap ∧ cap ≤ maxLen ∧ cur.size = cap ∧ cur.toList.take xs.length = nums .u8 xs
section
variable {e : Nat} {w w1 W : World} {base N : Nat} {ok ok' : Nat → Prop} {v u : Value} {xs : List Int}
theorem R_mono (h : R e w base ok v xs) (hok : ∀ k, ok k → ok' k) : R e w base ok' v xs := by
  rcases h with h | ⟨g, cap, cur, fr, h1, h2, h3⟩
  · exact .inl h
  · exact .inr ⟨g, cap, cur, fr, h1, hok g h2, h3⟩
theorem R_step (h : R e w base ok v xs) (hm : ∀ k, ok k → k < w.heap.size → w1.heap[k]? = w.heap[k]?) : R e w1 base ok v xs := by
  rcases h with h | ⟨g, cap, cur, fr, h1, h2, h3, h4, h5⟩
  · exact .inl h
  · exact .inr ⟨g, cap, cur, fr, h1, h2, h3, (hm g h2 (Array.getElem?_eq_some_iff.1 h4).1).trans h4, h5⟩
theorem R_below (h : R e w base ok v xs) (hb : Below w.heap.size w w1) : R e w1 base ok v xs := R_step h (fun k _ hk => hb.block k hk)
theorem R_alloc (h : R e w base ok v xs) (o : Obj) : R e (w.alloc o) base ok v xs := R_below h (below_alloc (Below.refl _ _) o)
theorem R_drew (h : R e w base ok v xs) : R e w.drew base ok v xs := R_below h (below_drew (Below.refl _ _))
theorem R_drewN (h : R e w base ok v xs) (m : Nat) : R e (w.drewN m) base ok v xs := R_below h (pw_below_drewN (Below.refl _ _) m)
theorem R_slice (h : R e w base ok v xs) : ∃ A c, v = .slice A xs.length c := by
  rcases h with ⟨rfl, rfl⟩ | ⟨g, cap, cur, fr, h1, _⟩
  · exact ⟨none, 0, rfl⟩
  · exact ⟨_, _, h1⟩
theorem R_bound (h : R e w base ok v xs) : R e w base (fun k => ok k ∧ base ≤ k ∧ k < w.heap.size) v xs := by
  rcases h with h | ⟨g, cap, cur, fr, h1, h2, h3, h4, h5⟩
  · exact .inl h
  · exact .inr ⟨g, cap, cur, fr, h1, ⟨h2, h3, (Array.getElem?_eq_some_iff.1 h4).1⟩, h3, h4, h5⟩
theorem R_lt (h : R e w base ok v xs) : ∀ k, v.ownBlock = some k → k < w.heap.size := by
  rcases h with ⟨rfl, _⟩ | ⟨g, cap, cur, fr, rfl, h2, h3, h4, h5⟩
  · intro k hk; simp [Value.ownBlock] at hk
  · intro k hk; simp [Value.ownBlock] at hk; subst hk; exact (Array.getElem?_eq_some_iff.1 h4).1
theorem R_lower {base' : Nat} (h : R e w base ok v xs) (hb : base' ≤ base) : R e w base' ok v xs := by
  rcases h with h | ⟨g, cap, cur, fr, h1, h2, h3, h4⟩
  · exact .inl h
  · exact .inr ⟨g, cap, cur, fr, h1, h2, Nat.le_trans hb h3, h4⟩
theorem R_form (h : R e w base ok v xs) (hp : 0 < xs.length) : ∃ g cap, v = .slice (some ⟨g, 0, none⟩) xs.length cap ∧ base ≤ g ∧ g < w.heap.size ∧ ∃ cells, ∃ fr, w.heap[g]? = some (.cells cells e fr) := by
  rcases h with ⟨_, rfl⟩ | ⟨g, cap, cur, fr, h1, h2, h3, h4, h5⟩
  · exact absurd hp (by simp)
  · exact ⟨g, cap, h1, h3, (Array.getElem?_eq_some_iff.1 h4).1, cur, fr, h4⟩
/-- None of the blocks of another type. -/
theorem R_ne (h : R e w base ok v xs) {g t : Nat} {cells : Array Value} {fr : Nat × Nat} (hb : w.heap[g]? = some (.cells cells t fr)) (ht : e ≠ t) : some g ≠ v.ownBlock := by
  rcases h with ⟨rfl, _⟩ | ⟨g', cap, cur, fr', rfl, h2, h3, h4, h5⟩
  · simp [Value.ownBlock]
  · intro he
    have : g = g' := by simpa [Value.ownBlock] using he
    subst this
    rw [hb] at h4
    injection h4 with h4
    injection h4 with _ h4
    exact ht h4.symm
theorem R_types (h : R e w base ok v xs) {g t : Nat} {cells : Array Value} {fr : Nat × Nat} (hb : w.heap[g]? = some (.cells cells t fr)) (ht : e ≠ t) : R e w base (fun k => ok k ∧ k ≠ g) v xs := by
  have hn := R_ne h hb ht
  rcases h with h | ⟨g', cap, cur, fr', rfl, h2, h3⟩
  · exact .inl h
  · exact .inr ⟨g', cap, cur, fr', rfl, ⟨h2, fun e => hn (by rw [e]; rfl)⟩, h3⟩
theorem nums_at (xs : List Int) (i : Nat) (h : i < xs.length) : (nums .u8 xs)[i]? = some (.int .u8 (rd xs (i : Int))) := by
  simp [nums, rd, h]
theorem cur_at {cur : Array Value} (hc : cur.toList.take xs.length = nums .u8 xs) (i : Nat) (h : i < xs.length) : cur[i]? = some (.int .u8 (rd xs (i : Int))) := by
  have h1 := nums_at xs i h
  rw [← hc, List.getElem?_take_of_lt h] at h1
  rw [← Array.getElem?_toList]; exact h1
theorem R_celln {g n cap : Nat} (dd : Int) (h : R e w base ok (.slice (some ⟨g, 0, none⟩) n cap) xs) (i : Int) (h0 : 0 ≤ i) (hi : i < n) :
    w.cell? ⟨g, i.toNat, none⟩ = some (.int .u8 (rd xs i)) ∧ w.frozen? ⟨g, i.toNat, none⟩ = false := by
  rcases h with ⟨h1, _⟩ | ⟨g', cap', cur, fr, h1, h2, h3, h4, h5, h6, h7, h8, h9⟩
  · cases h1
  · injection h1 with h1 hn hc
    injection h1 with h1; injection h1 with h1
    subst h1; subst hn
    obtain ⟨i, rfl⟩ := Int.eq_ofNat_of_zero_le h0
    have hi' : i < xs.length := by omega
    rw [Int.toNat_natCast]
    refine ⟨?_, ?_⟩
    · simp only [World.cell?, h4]; exact cur_at h9 i hi'
    · obtain ⟨f1, f2⟩ := fr
      simp only [World.frozen?, h4]
      rcases h5 with h5 | h5
      · injection h5 with h5 h5'; subst h5'; simp
      · simp at h5 ⊢; omega
theorem C_of {A : Option Addr} {n c : Nat} (h : R e w base ok (.slice A n c) xs) : n = xs.length ∧ xs.length ≤ c ∧ (Kd.int .u8).C w A n xs := by
  rcases h with ⟨h1, rfl⟩ | ⟨g', cap', cur, fr, h1, h2, h3, h4, h5, h6, h7, h8, h9⟩
  · injection h1 with h1 h2 h3
    subst h1; subst h2; subst h3
    exact ⟨rfl, Nat.le_refl _, Kd.C_nil _ _⟩
  · injection h1 with h1 hn hc
    subst h1; subst hn; subst hc
    refine ⟨rfl, h6, ?_⟩
    refine Kd.C_of_reads (enc := Value.int .u8) (d := (0 : Int)) (h1 := fun _ => rfl) ⟨rfl, by simp only [maxLen] at h7; omega, fun _ => ⟨_, rfl, fun j hj => ?_⟩⟩
    have h10 := cur_at h9 j hj
    rw [add_plain]
    simp only [World.cell?, h4]
    rw [show xs.getD j 0 = rd xs (j : Int) by simp [rd]]; exact h10
theorem R_reads' {A : Option Addr} {n c : Nat} (h : R e w base ok (.slice A n c) xs) : n = xs.length ∧ xs.length ≤ c ∧ (Kd.int .u8).C w A n xs := C_of h
theorem R_take {m n c : Nat} {A : Option Addr} (h : R e w base ok (.slice A n c) xs) (hm : m ≤ xs.length) : R e w base ok (.slice A m c) (xs.take m) := by
  rcases h with ⟨h1, rfl⟩ | ⟨g', cap', cur, fr, h1, h2, h3, h4, h5, h6, h7, h8, h9⟩
  · injection h1 with h1 h2 h3
    subst h1; subst h3
    obtain rfl : m = 0 := by simpa using hm
    exact .inl ⟨rfl, rfl⟩
  · injection h1 with h1 hn hc
    subst h1; subst hn; subst hc
    refine .inr ⟨g', c, cur, fr, by rw [List.length_take, Nat.min_eq_left hm], h2, h3, h4, h5, by rw [List.length_take]; omega, h7, h8, ?_⟩
    have h10 := congrArg (List.take m) h9
    rw [List.take_take, Nat.min_eq_left hm] at h10
    rw [List.length_take, Nat.min_eq_left hm, h10]
    simp [nums, List.map_take]
theorem own_string {P : Program} {s t e' : TypeId} (hs : P.underlying s = some (.slice e')) (he : P.underlying e' = some (.int .u8)) (hd : P.underlying t = some .string) {A : Option Addr} {n c : Nat}
    (h : R e w base ok (.slice A n c) xs) : ∀ n' (hn' : n' = xs.length), (convert s t (.slice A n' c)).run P w = .ok (.string (strOfNums xs)) w := by
  intro n' hn'
  obtain ⟨rfl, h2, h3⟩ := C_of h
  subst hn'
  exact Kd.C_string hs he hd h3
/-! the events -/
section
variable {P : Program} {ops : Array Oper} {rest : List Oper} {o : Oper} {a : Act} {Q : Exit → Act → World → Prop}
theorem nums_app (a b : List Int) : nums .u8 (a ++ b) = nums .u8 a ++ nums .u8 b := by simp [nums]
theorem setCell_at {g i : Nat} {cur : Array Value} {fr : Nat × Nat} (h4 : W.heap[g]? = some (.cells cur e fr)) (x : Value) : (W.setCell ⟨g, i, none⟩ x).heap[g]? = some (.cells (cur.setIfInBounds i x) e fr) := by
  simp only [World.setCell, Array.getElem?_modify, if_true, h4]; rfl
/-- append of one byte. -/
theorem R_append {w0 : World} (base : Nat) (hgd : o.guard = none) (s x : Operand) (t e : TypeId)
    (ho : o.op = .call { callee := .builtin .append, args := #[s, x], argTypes := #[t, t] })
    (ht : P.underlying t = some (.slice e)) (hinfo : (P.info? e).map (fun i => (i.zero, i.size, i.bytes)) = some (some (.int .u8 0), 1, 1))
    (v : Value) (xs : List Int) (p : Int) (ok : Nat → Prop) (hs : a.eval s = v) (hx : a.eval x = .slice (some ⟨W.heap.size, 0, none⟩) 1 1) (hfresh : ∀ k, W.heap.size ≤ k → ok k) (hne : xs ≠ [])
    (HO : R e W base ok v xs) (HB : Below base w0 W) (hbase : base ≤ W.heap.size) (hl : xs.length + 1 ≤ 140737488355328)
    (h : ∀ v1 w1, R e w1 base ok v1 (xs ++ [p]) → Below base w0 w1 → W.grownBy w1 v.ownBlock → wpList P ops Q rest (a.put o.dst v1) w1) :
    wpList P ops Q (o :: rest) a (W.alloc (.cells #[.int .u8 p] e)) := by
  obtain ⟨i0, hi, hzz⟩ := Option.map_eq_some_iff.1 hinfo
  simp only [Prod.mk.injEq] at hzz
  obtain ⟨hz0, hz1, hz2⟩ := hzz
  rcases HO with ⟨_, h0⟩ | ⟨g, cap, cur, fr, rfl, h2, h3, h4, h5, h6, h7, h8, h9⟩
  · exact absurd h0 hne
  have hg : g < W.heap.size := (Array.getElem?_eq_some_iff.1 h4).1
  have hA : (W.alloc (.cells #[.int .u8 p] e)).heap[g]? = some (.cells cur e fr) := by exact (heap_alloc_old W _ hg).trans h4
  have hnew : ∀ j u, ([.int .u8 p] : List Value)[j]? = some u → (W.alloc (.cells #[.int .u8 p] e)).cell? ((⟨W.heap.size, 0, none⟩ : Addr).add j) = some u := by
    simpa using World.news_of_block (cs := #[.int .u8 p]) (t := e) (fr := (0, 0)) (heap_alloc_new W (.cells #[.int .u8 p] e))
  refine wpList_plain hgd fun K hK => ?_
  by_cases hroom : xs.length + 1 ≤ cap
  · have hf := run_firstCells_some (P := P) (W.alloc (.cells #[.int .u8 p] e)) i0.size 1 ⟨W.heap.size, 0, none⟩ 1 1 [.int .u8 p] (by rw [hz1]; rfl) hnew
    have hfz : (W.alloc (.cells #[.int .u8 p] e)).frozen? ⟨g, xs.length, none⟩ = false := by
      obtain ⟨f1, f2⟩ := fr
      simp only [World.frozen?, hA]
      rcases h5 with h5 | h5
      · injection h5 with h5 h5'; subst h5'; simp
      · simp at h5 ⊢; omega
    have hst := run_storeCells_cells (P := P) g xs.length [.int .u8 p] 0 (W.alloc (.cells #[.int .u8 p] e)) (by
      intro j hj
      have : j = 0 := by simp at hj; omega
      subst this
      simp only [World.cell?, Nat.add_zero, hA]
      simp [show xs.length < cur.size by omega]) (by
      intro j hj
      have : j = 0 := by simp at hj; omega
      subst this
      simpa using hfz) (by intro v hv; simp at hv; subst hv; rfl)
    have hr : (Builtin.append_ #[t, t] o.type #[.slice (some ⟨g, 0, none⟩) xs.length cap, .slice (some ⟨W.heap.size, 0, none⟩) 1 1]).run P (W.alloc (.cells #[.int .u8 p] e)) = .ok (.slice (some ⟨g, 0, none⟩) (xs.length + 1) cap) ((W.alloc (.cells #[.int .u8 p] e)).setCell ⟨g, xs.length, none⟩ (.int .u8 p)) := by
      simp only [Nat.add_zero, World.setCells] at hst
      rw [hz1] at hf
      simp [Builtin.append_, run_underlying ht, sizeOf, typeInfo, hi, hz1, Builtin.lenOf, hroom, hf, Addr.add_lit, hst]
    unfold Oper.wp execOp
    simp only [ho, resolve, invoke, builtin, Sem.run_bind, Sem.run_pure, Result.andThen_ok, List.map_toArray, List.map_cons, List.map_nil, hs, hx, hr]
    refine hK _ _ (h _ _ (.inr ⟨g, cap, cur.setIfInBounds xs.length (.int .u8 p), fr, by rw [List.length_append]; rfl, h2, h3, setCell_at hA _, by rw [Array.size_setIfInBounds]; exact h5, by rw [List.length_append]; exact hroom, h7, by rw [Array.size_setIfInBounds]; exact h8, ?_⟩) ?_ ?_)
    · rw [List.length_append, Array.toList_setIfInBounds, nums_app, ← h9]
      simp only [List.length_singleton]
      rw [List.take_succ_eq_append_getElem (by simp; omega), List.take_set_of_le (by omega)]
      simp [nums]
    · exact (HB.alloc hbase _).setCell (p := ⟨g, xs.length, none⟩) h3 _
    · refine World.grownBy.trans (World.grownBy_alloc W _ _) ⟨rfl, rfl, rfl, by simp [World.setCell], fun k hk hn => Below.heap_setCell _ ⟨g, xs.length, none⟩ _ k (fun e => hn (by rw [e]; rfl))⟩
  · have hcap : cap = xs.length := by omega
    have holds : ∀ j u, (nums .u8 xs)[j]? = some u → (W.alloc (.cells #[.int .u8 p] e)).cell? ((⟨g, 0, none⟩ : Addr).add j) = some u := by
      intro j u hj
      rw [add_plain]
      simp only [World.cell?, hA]
      have hj' : j < xs.length := by
        have := (List.getElem?_eq_some_iff.1 hj).1
        simpa [nums] using this
      have h10 := cur_at h9 j hj'
      rw [nums_at xs j hj'] at hj
      rw [← hj]; exact h10
    have hr := run_append_grow (P := P) (W.alloc (.cells #[.int .u8 p] e)) t o.type e i0 (.int .u8 0) ht hi hz0 ⟨g, 0, none⟩ xs.length cap (nums .u8 xs) (by rw [hz1]; simp [nums]) holds ⟨W.heap.size, 0, none⟩ 1 1 [.int .u8 p] (by rw [hz1]; rfl) hnew (by omega) (by omega) (by rw [hz2]; exact growslice_fits (by omega) (by omega))
    unfold Oper.wp execOp
    simp only [ho, resolve, invoke, builtin, Sem.run_bind, Sem.run_pure, Result.andThen_ok, List.map_toArray, List.map_cons, List.map_nil, hs, hx, hr]
    have hge := grownCap_ge (W.alloc (.cells #[.int .u8 p] e)) (xs.length + 1) cap e
    have hcm : grownCap (W.alloc (.cells #[.int .u8 p] e)) (xs.length + 1) cap e ≤ maxLen := grownCap_le_maxLen _ _ _ _ (by simp only [maxLen]; omega)
    have hsz : (W.alloc (.cells #[.int .u8 p] e)).drew.heap.size = W.heap.size + 1 := by simp
    refine hK _ _ (h _ _ (.inr ⟨_, _, _, (0, 0), by rw [List.length_append]; rfl, hfresh _ (by omega), by omega, heap_alloc_new (W.alloc (.cells #[.int .u8 p] e)).drew _, .inl rfl, by rw [List.length_append]; exact hge, hcm, ?_, ?_⟩) ?_ ?_)
    · have hz1' : (Value.int IntKind.u8 0).cells.size = 1 := rfl
      simp only [Array.size_append, List.size_toArray, size_zeroCells, hz1']
      simp [nums]; omega
    · simp only [Array.toList_append, List.append_assoc]
      rw [← List.append_assoc, nums_app, List.length_append]
      exact List.take_left' (by simp [nums])
    · exact (below_drew1 (HB.alloc hbase _)).alloc (by rw [hsz]; omega) _
    · exact World.grownBy.trans (World.grownBy_alloc W _ _) ⟨rfl, rfl, rfl, by simp, fun k hk _ => heap_alloc_old _ _ hk⟩
theorem setCells_far (g : Nat) : ∀ (vs : List Value) (o : Nat) (W : World) (k : Nat), k ≠ g → (W.setCells g o vs).heap[k]? = W.heap[k]?
  | [], o, W, k, h => rfl
  | v :: r, o, W, k, h => by
    show ((W.setCell ⟨g, o, none⟩ v).setCells g (o + 1) r).heap[k]? = _
    rw [setCells_far g r (o + 1) _ k h]
    exact Below.heap_setCell W ⟨g, o, none⟩ v k h
end
end
end Go.Proofs.YtkehfdadplpaeaaDoor.MK
