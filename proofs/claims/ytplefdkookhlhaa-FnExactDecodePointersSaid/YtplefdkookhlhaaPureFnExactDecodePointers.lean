/- FnExactDecodePointers: at every list of bytes the program's DecodePointers returns what the reference's returns, in memory of its own, and the bytes stay as they were. -/
import Derived.Test.YtplefdkookhlhaaPFnExactDecodePointersx
import Derived.Test.YtplefdkookhlhaaHlp
namespace Go.Proofs.Ytplefdkookhlhaa.Pure
open Go.RowKit Go.Proofs.Ytplefdkookhlhaa.PFnExactDecodePointers Go.Proofs.YtplefdkookhlhaaW.PrintWords Go.Proofs.YtplefdkookhlhaaW.PrintLast Go.Proofs.YtplefdkookhlhaaW.PrintMore Go.Proofs.Ytplefdkookhlhaa.Hlp
set_option linter.unusedVariables false
namespace GN
/-- The number that the bytes say, the first the greatest. -/
def val (l : List Int) : Int := l.foldl (fun v c => v * 256 + c) 0
theorem val_nil : val [] = 0 := rfl
theorem val_snoc (l : List Int) (c : Int) : val (l ++ [c]) = val l * 256 + c := by unfold val; rw [List.foldl_append]; rfl
theorem val_bd (l : List Int) (hb : ∀ x ∈ l, 0 ≤ x ∧ x ≤ 255) (n : Nat) : n ≤ l.length → 0 ≤ val (l.take n) ∧ val (l.take n) < 256 ^ n := by
  induction n with
  | zero => intro _; simp [val]
  | succ n ih =>
    intro h
    have := ih (by omega)
    rw [List.take_succ_eq_append_getElem (by omega), val_snoc, Int.pow_succ]
    have := hb l[n] (List.getElem_mem _)
    omega
theorem val_take_lt (l : List Int) (hb : ∀ x ∈ l, 0 ≤ x ∧ x ≤ 255) (h8 : l.length ≤ 8) (ht : l.length = 8 → rd l 0 ≤ 127) (n : Nat) (hn : n < l.length) : 0 ≤ val (l.take n) ∧ val (l.take n) < 2 ^ 55 ∧ 0 ≤ l[n] ∧ l[n] ≤ 255 := by
  have h := val_bd l hb n (by omega)
  have hc := hb l[n] (List.getElem_mem _)
  refine ⟨h.1, ?_, hc.1, hc.2⟩
  by_cases h7 : n = 7
  · subst h7
    have h1 := ht (by omega)
    match l, hn with
    | a :: b :: c :: d :: e :: f :: g :: r, _ =>
      have ha := hb a (by simp); have hb1 := hb b (by simp); have hc1 := hb c (by simp); have hd1 := hb d (by simp); have he := hb e (by simp); have hf := hb f (by simp); have hg := hb g (by simp)
      have h1' : a ≤ 127 := h1
      show val [a, b, c, d, e, f, g] < 2 ^ 55
      simp only [val, List.foldl]; omega
  · have h6 : n = 0 ∨ n = 1 ∨ n = 2 ∨ n = 3 ∨ n = 4 ∨ n = 5 ∨ n = 6 := by omega
    have h2 := h.2
    rcases h6 with e | e | e | e | e | e | e <;> rw [e] at h2 ⊢ <;> omega
theorem spec_loop (l : List Int) (hb : ∀ x ∈ l, 0 ≤ x ∧ x ≤ 255) (h8 : l.length ≤ 8) (ht : l.length = 8 → rd l 0 ≤ 127) (d : Nat) : ∀ n : Nat, n + d = l.length → Ev (fun k => spec_GetNumber.l0 k l (val (l.take n)) (n : Int)) (val l) := by
  induction d with
  | zero =>
    intro n hn
    have : l.take n = l := List.take_of_length_le (by omega)
    rw [this]
    exact Ev.step (f := fun _ => some (val l)) (fun k => by simp only [spec_GetNumber.l0]; rw [if_neg (by omega)]) (Ev.now _)
  | succ d ih =>
    intro n hn
    have hv := val_take_lt l hb h8 ht n (by omega)
    refine Ev.step (f := fun k => spec_GetNumber.l0 k l (val (l.take (n + 1))) ((n + 1 : Nat) : Int)) (fun k => ?_) (ih (n + 1) (by omega))
    simp only [spec_GetNumber.l0]
    rw [if_pos (by omega), if_pos (by omega), rd_nat l n (by omega), List.take_succ_eq_append_getElem (by omega), val_snoc]
    rw [w64 (x := val (l.take n) * 256) (by omega) (by omega), w64 (x := l[n]) (by omega) (by omega), w64 (by omega) (by omega), w64 (by omega) (by omega)]
    rfl
theorem impl_loop (l : List Int) (hb : ∀ x ∈ l, 0 ≤ x ∧ x ≤ 255) (h8 : l.length ≤ 8) (ht : l.length = 8 → rd l 0 ≤ 127) (d : Nat) : ∀ n : Nat, n + d = l.length → Ev (fun k => impl_GetNumber.l0 k (val (l.take n)) l (l.length : Int) (n : Int)) (val l) := by
  induction d with
  | zero =>
    intro n hn
    have : l.take n = l := List.take_of_length_le (by omega)
    rw [this]
    exact Ev.step (f := fun _ => some (val l)) (fun k => by simp only [impl_GetNumber.l0]; rw [if_neg (by omega)]) (Ev.now _)
  | succ d ih =>
    intro n hn
    have hv := val_take_lt l hb h8 ht n (by omega)
    refine Ev.step (f := fun k => impl_GetNumber.l0 k (val (l.take (n + 1))) l (l.length : Int) ((n + 1 : Nat) : Int)) (fun k => ?_) (ih (n + 1) (by omega))
    simp only [impl_GetNumber.l0]
    rw [if_pos (by omega), if_pos (by omega), if_pos (by omega), rd_nat l n (by omega), List.take_succ_eq_append_getElem (by omega), val_snoc]
    rw [w64 (x := val (l.take n) * 256) (by omega) (by omega), w64 (x := l[n]) (by omega) (by omega), i64_orb _ _ hv.1 hv.2.1 hv.2.2.1 (by omega), w64 (by omega) (by omega)]
    rfl
/-- What both say. -/
def numOf (l : List Int) : Int := if l.length = 0 ∨ l.length > 8 ∨ (l.length = 8 ∧ rd l 0 > 127) then -1 else val l
theorem spec_ev (l : List Int) (hb : ∀ x ∈ l, 0 ≤ x ∧ x ≤ 255) : Ev (fun k => spec_GetNumber.f k l) (numOf l) := by
  have hj : ∀ k b, spec_GetNumber.j0 (k + 1) l b = if b = true then (some (-1)) else (spec_GetNumber.l0 k l 0 0) := fun _ _ => rfl
  by_cases h : l.length = 0 ∨ l.length > 8 ∨ (l.length = 8 ∧ rd l 0 > 127)
  · have : numOf l = -1 := by unfold numOf; rw [if_pos h]
    rw [this]
    refine Ev.step (f := fun _ => some (-1)) (fun k => ?_) (Ev.now _)
    unfold spec_GetNumber.f
    rcases h with h | h | ⟨h, h2⟩
    · rw [if_pos (by omega), hj, if_pos rfl]
    · rw [if_neg (by omega), if_pos (by omega), hj, if_pos rfl]
    · rw [if_neg (by omega), if_neg (by omega), if_pos (by omega), if_pos (by omega), hj, if_pos (decide_eq_true h2)]
  · have : numOf l = val l := by unfold numOf; rw [if_neg h]
    rw [this]
    refine Ev.step (f := fun k => spec_GetNumber.l0 k l (val (l.take 0)) ((0 : Nat) : Int)) (fun k => ?_) (spec_loop l hb (by omega) (by omega) l.length 0 (by omega))
    unfold spec_GetNumber.f
    rw [if_neg (by omega), if_neg (by omega)]
    by_cases h8 : l.length = 8
    · rw [if_pos (by omega), if_pos (by omega), hj, if_neg (by simp; omega)]; rfl
    · rw [if_neg (by omega), hj, if_neg (by simp)]; rfl
theorem impl_ev (l : List Int) (hb : ∀ x ∈ l, 0 ≤ x ∧ x ≤ 255) : Ev (fun k => impl_GetNumber.f k l) (numOf l) := by
  have hj : ∀ k b, impl_GetNumber.j0 (k + 1) l b = if b = true then (some (-1)) else (impl_GetNumber.l0 k 0 l (l.length : Int) 0) := fun _ _ => rfl
  by_cases h : l.length = 0 ∨ l.length > 8 ∨ (l.length = 8 ∧ rd l 0 > 127)
  · have : numOf l = -1 := by unfold numOf; rw [if_pos h]
    rw [this]
    refine Ev.step (f := fun _ => some (-1)) (fun k => ?_) (Ev.now _)
    unfold impl_GetNumber.f
    rcases h with h | h | ⟨h, h2⟩
    · rw [if_pos (by omega), hj, if_pos rfl]
    · rw [if_neg (by omega), if_pos (by omega), hj, if_pos rfl]
    · rw [if_neg (by omega), if_neg (by omega), if_pos (by omega), if_pos (by omega), hj, if_pos (decide_eq_true (by omega))]
  · have : numOf l = val l := by unfold numOf; rw [if_neg h]
    rw [this]
    refine Ev.step (f := fun k => impl_GetNumber.l0 k (val (l.take 0)) l (l.length : Int) ((0 : Nat) : Int)) (fun k => ?_) (impl_loop l hb (by omega) (by omega) l.length 0 (by omega))
    unfold impl_GetNumber.f
    rw [if_neg (by omega), if_neg (by omega)]
    by_cases h8 : l.length = 8
    · rw [if_pos (by omega), if_pos (by omega), hj, if_neg (by simp; omega)]; rfl
    · rw [if_neg (by omega), hj, if_neg (by simp)]; rfl
end GN
namespace EP
/-- n bytes of v, the greatest first. -/
def be : Nat → Int → List Int
  | 0, _ => []
  | n + 1, v => be n (v / 256) ++ [v % 256]
theorem be_len : ∀ (n : Nat) (v : Int), (be n v).length = n
  | 0, _ => rfl
  | n + 1, v => by simp [be, be_len n]
/-- What both say. -/
def putOf (v n : Int) : List Int := if n < 1 ∨ n > 8 ∨ v < 0 ∨ v / 256 ^ n.toNat > 0 then [] else be n.toNat v
theorem putOf_len (v n : Int) : (putOf v n).length ≤ 8 := by
  unfold putOf; split
  · simp
  · rw [be_len]; omega
theorem div_pow (v : Int) (d : Nat) : v / 256 / 256 ^ d = v / 256 ^ (d + 1) := by
  rw [Int.ediv_ediv_of_nonneg (by omega), Int.pow_succ, Int.mul_comm]
theorem be_get : ∀ (n : Nat) (v : Int) (i : Nat) (h : i < (be n v).length), (be n v)[i] = v / 256 ^ (n - 1 - i) % 256
  | 0, _, i, h => by simp [be] at h
  | n + 1, v, i, h => by
    have hl := be_len n (v / 256)
    by_cases hi : i < n
    · simp only [be]
      rw [List.getElem_append_left (by omega), be_get n (v / 256) i (by omega), div_pow, show n - 1 - i + 1 = n + 1 - 1 - i by omega]
    · have hi' : i = n := by simp [be, hl] at h; omega
      subst hi'
      simp only [be]
      rw [List.getElem_append_right (by omega)]
      simp [hl]
theorem pow8 (m : Nat) : (2 : Int) ^ (8 * m) = 256 ^ m := by rw [Int.pow_mul]; rfl
theorem shr8 (v : Int) (m : Nat) (hm : m ≤ 8) : shr .i64 v ((8 * m : Nat) : Int) = v / 256 ^ m := by
  unfold shr; rw [Int.toNat_natCast, Nat.min_eq_left (by simp only [IntKind.bits]; omega), pow8]
theorem putImpl_loop (v : Int) (n : Nat) (hn : n ≤ 8) : Ev (fun k => impl_PutNumber.l0 k v (n : Int) (List.replicate n 0) (n : Int) 0) (be n v) := by
  have h := fill_ev (L := fun k x i => impl_PutNumber.l0 k v (n : Int) x (n : Int) i) (List.range n) (fun i => v / 256 ^ (n - 1 - i) % 256)
    (fun i x h hx r hr => by
      simp only [List.length_range] at h hx
      refine Ev.step (fun k => ?_) hr
      simp only [impl_PutNumber.l0]
      have e : wrap64 (8 * (wrap64 ((wrap64 ((n : Int) - 1)) - i))) = ((8 * (n - 1 - i) : Nat) : Int) := by
        rw [w64 (x := (n : Int) - 1) (by omega) (by omega), w64 (x := (n : Int) - 1 - i) (by omega) (by omega), w64 (by omega) (by omega)]; omega
      rw [if_pos (by omega), e, if_pos (by omega), if_pos (by omega), if_pos (by omega), shr8 _ _ (by omega), w64 (by omega) (by omega)]
      simp)
    (fun x hx => by
      simp only [List.length_range] at hx ⊢
      exact Ev.step (f := fun _ => some x) (fun k => by simp only [impl_PutNumber.l0]; rw [if_neg (by omega)]) (Ev.now _))
    (List.replicate n 0) (by simp)
  have e : (List.range n).map (fun i => v / 256 ^ (n - 1 - i) % 256) = be n v := by
    apply List.ext_getElem
    · simp [be_len]
    · intro i h1 h2
      rw [be_get]; simp
  rwa [e] at h
theorem lt256 (v : Int) (h0 : 0 ≤ v) (h1 : v ≤ 9223372036854775807) : v / 256 ^ 8 = 0 := by
  have : (256 : Int) ^ 8 = 18446744073709551616 := by decide
  rw [this]; omega
theorem putImpl_ev (v n : Int) (hv : v ≤ 9223372036854775807) : Ev (fun k => impl_PutNumber.f k v n) (putOf v n) := by
  have hj : ∀ k b, impl_PutNumber.j0 (k + 1) v n b = if b = true then (some ([] : List Int)) else (if 0 ≤ n then (if (n : Int).toNat ≤ 281474976710656 then ((some (List.replicate (n : Int).toNat 0 : List Int)).bind fun y116 => (impl_PutNumber.l0 k v n y116 (y116.length : Int) 0)) else (none)) else (none)) := fun _ _ => rfl
  by_cases c1 : n < 1
  · have : putOf v n = [] := by unfold putOf; rw [if_pos (.inl c1)]
    rw [this]
    exact Ev.step (f := fun _ => some []) (fun k => by unfold impl_PutNumber.f; rw [if_pos c1, hj, if_pos rfl]) (Ev.now _)
  by_cases c2 : n > 8
  · have : putOf v n = [] := by unfold putOf; rw [if_pos (.inr (.inl c2))]
    rw [this]
    exact Ev.step (f := fun _ => some []) (fun k => by unfold impl_PutNumber.f; rw [if_neg c1, if_pos c2, hj, if_pos rfl]) (Ev.now _)
  by_cases c3 : v < 0
  · have : putOf v n = [] := by unfold putOf; rw [if_pos (.inr (.inr (.inl c3)))]
    rw [this]
    exact Ev.step (f := fun _ => some []) (fun k => by unfold impl_PutNumber.f; rw [if_neg c1, if_neg c2, if_pos c3, hj, if_pos rfl]) (Ev.now _)
  obtain ⟨m, rfl⟩ := Int.eq_ofNat_of_zero_le (show 0 ≤ n by omega)
  have hloop : ∀ b, b = false → Ev (fun k => impl_PutNumber.j0 k v (m : Int) b) (be m v) := fun b hb => by
    refine Ev.step (f := fun k => impl_PutNumber.l0 k v (m : Int) (List.replicate m 0) (m : Int) 0) (fun k => ?_) (putImpl_loop v m (by omega))
    rw [hj, if_neg (by simp [hb]), if_pos (by omega), if_pos (by simp; omega)]; simp
  by_cases c4 : (m : Int) < 8
  · have e8 : wrap64 (8 * (m : Int)) = ((8 * m : Nat) : Int) := by rw [w64 (by omega) (by omega)]; omega
    have hd : 0 ≤ v / 256 ^ m := Int.ediv_nonneg (by omega) (Int.le_of_lt (Int.pow_pos (by decide)))
    by_cases c5 : v / 256 ^ m > 0
    · have : putOf v m = [] := by unfold putOf; rw [if_pos (.inr (.inr (.inr (by simpa using c5))))]
      rw [this]
      exact Ev.step (f := fun _ => some []) (fun k => by unfold impl_PutNumber.f; rw [if_neg c1, if_neg c2, if_neg c3, if_pos c4, e8, if_pos (by omega), shr8 _ _ (by omega), hj, if_pos (by simp; omega)]) (Ev.now _)
    · have : putOf v m = be m v := by unfold putOf; rw [if_neg (by simp; omega)]; simp
      rw [this]
      exact Ev.congr (fun k => by unfold impl_PutNumber.f; rw [if_neg c1, if_neg c2, if_neg c3, if_pos c4, e8, if_pos (by omega), shr8 _ _ (by omega)]) (hloop _ (by simp; omega))
  · have hm8 : m = 8 := by omega
    have : putOf v m = be m v := by
      unfold putOf; rw [if_neg (by subst hm8; have := lt256 v (by omega) hv; simp only [Int.toNat_natCast]; omega)]; simp
    rw [this]
    exact Ev.congr (fun k => by unfold impl_PutNumber.f; rw [if_neg c1, if_neg c2, if_neg c3, if_neg c4]) (hloop _ rfl)
theorem put_ev (b : List Int) (p : Nat) (v n : Int) (hv : v ≤ 9223372036854775807) (hp : p ≤ b.length) : Ev (fun k => impl_put.f k b (p : Int) v n) (splice b p ((putOf v n).take (b.length - p))) := by
  unfold impl_put.f
  refine (putImpl_ev v n hv).bind ?_
  exact Ev.congr (fun k => by rw [if_pos (by omega), if_pos (by omega), Int.toNat_natCast]) (Ev.now _)
theorem put_two (v : Int) (h0 : 0 ≤ v) (h1 : v < 65536) : putOf v 2 = be 2 v := by
  unfold putOf; rw [if_neg (by simp; omega)]; rfl
theorem splice_at (a z x : List Int) (h : x.length ≤ z.length) : splice (a ++ z) a.length (x.take ((a ++ z).length - a.length)) = (a ++ x) ++ z.drop x.length := by
  have e : x.take ((a ++ z).length - a.length) = x := List.take_of_length_le (by rw [List.length_append]; omega)
  rw [e]; unfold splice
  rw [List.take_left, List.drop_append]
  simp
/-- A number of two bytes, put behind what stands, ahead of zeros. -/
theorem put2_ev (a : List Int) (m : Nat) (p : Int) (v : Int) (h0 : 0 ≤ v) (h1 : v < 65536) (hp : p = (a.length : Int)) : Ev (fun k => impl_put.f k (a ++ List.replicate (m + 2) 0) p v 2) ((a ++ be 2 v) ++ List.replicate m 0) := by
  have h := put_ev (a ++ List.replicate (m + 2) 0) a.length v 2 (by omega) (by simp)
  rw [put_two v h0 h1, splice_at a _ _ (by rw [be_len]; simp), be_len] at h
  have e : (List.replicate (m + 2) (0 : Int)).drop 2 = List.replicate m 0 := by simp
  rw [e] at h
  rw [hp]; exact h
theorem num_both (l : List Int) (hb : ∀ x ∈ l, 0 ≤ x ∧ x ≤ 255) (hl : l.length = 64) (a : Nat) (ha : a + 2 ≤ 64) : ∃ v, Ev (fun k => spec_GetNumber.f k ((l.take (a + 2)).drop a)) v ∧ Ev (fun k => impl_num.f k l (a : Int) 2) v := by
  have hcut : ∀ x ∈ (l.take (a + 2)).drop a, 0 ≤ x ∧ x ≤ 255 := fun x hx => hb x (List.mem_of_mem_take (List.mem_of_mem_drop hx))
  refine ⟨_, GN.spec_ev _ hcut, ?_⟩
  have hw : wrap64 ((a : Int) + 2) = ((a + 2 : Nat) : Int) := by rw [w64 (by omega) (by omega)]; rfl
  unfold impl_num.f
  refine Ev.congr (fun k => by rw [if_pos (by omega), hw, if_pos (by omega), if_pos (by omega), Int.toNat_natCast, Int.toNat_natCast]) ?_
  exact (GN.impl_ev _ hcut).bind (Ev.now _)
def okP (l : List Int) (j : Nat) : Prop := 0 ≤ rd l (j : Int) ∧ rd l (j : Int) < 2048
theorem eloop (l : List Int) (hl : l.length = 32) (d : Nat) : ∀ (i : Nat) (a : List Int), i + d = 32 → a.length = 2 * i →
    ((∀ j, i ≤ j → j < 32 → okP l j) → ∃ r, Ev (fun k => impl_EncodePointers.l0 k (a ++ List.replicate (2 * d) 0) l (l.length : Int) (i : Int)) r ∧ r.length = 64) ∧ ((∃ j, i ≤ j ∧ j < 32 ∧ ¬ okP l j) → Ev (fun k => impl_EncodePointers.l0 k (a ++ List.replicate (2 * d) 0) l (l.length : Int) (i : Int)) []) := by
  induction d with
  | zero =>
    intro i a hi ha
    refine ⟨fun _ => ⟨a, Ev.step (f := fun _ => some a) (fun k => by simp only [impl_EncodePointers.l0]; rw [if_neg (by omega)]; simp) (Ev.now _), by omega⟩, fun ⟨j, h1, h2, _⟩ => by omega⟩
  | succ d ih =>
    intro i a hi ha
    have hw : wrap64 ((i : Int) + 1) = ((i + 1 : Nat) : Int) := by rw [w64 (by omega) (by omega)]; rfl
    by_cases hg : okP l i
    · obtain ⟨g0, g1⟩ := hg
      obtain ⟨h1, h2⟩ := ih (i + 1) (a ++ be 2 (rd l (i : Int))) (by omega) (by rw [List.length_append, be_len]; omega)
      have st : ∀ q, Ev (fun k => impl_EncodePointers.l0 k ((a ++ be 2 (rd l (i : Int))) ++ List.replicate (2 * d) 0) l (l.length : Int) ((i + 1 : Nat) : Int)) q → Ev (fun k => impl_EncodePointers.l0 k (a ++ List.replicate (2 * (d + 1)) 0) l (l.length : Int) (i : Int)) q := by
        intro q hq
        refine Ev.step (f := fun k => (impl_put.f k (a ++ List.replicate (2 * (d + 1)) 0) (wrap64 (2 * (i : Int))) (rd l (i : Int)) 2).bind fun t145 => (impl_EncodePointers.l0 k t145 l (l.length : Int) ((i + 1 : Nat) : Int))) (fun k => ?_) ?_
        · simp only [impl_EncodePointers.l0, impl_in.f]
          rw [if_pos (by omega), if_pos (by omega), if_pos (by omega), if_pos g0, Option.bind_some, if_pos (by simp; omega), hw]
        · have hp := put2_ev a (2 * d) (wrap64 (2 * (i : Int))) (rd l (i : Int)) g0 (by omega) (by rw [w64 (by omega) (by omega)]; omega)
          rw [show 2 * (d + 1) = 2 * d + 2 by omega]
          exact hp.bind hq
      refine ⟨fun ha => ?_, fun ⟨j, q1, q2, q3⟩ => st _ (h2 ⟨j, ?_, q2, q3⟩)⟩
      · obtain ⟨r, e1, e2⟩ := h1 (fun j q1 q2 => ha j (by omega) q2)
        exact ⟨r, st r e1, e2⟩
      · rcases Nat.lt_or_eq_of_le q1 with h | h
        · exact h
        · subst h; exact absurd ⟨g0, g1⟩ q3
    · refine ⟨fun ha => absurd (ha i (Nat.le_refl _) (by omega)) hg, fun _ => ?_⟩
      unfold okP at hg
      refine Ev.step (f := fun _ => some []) (fun k => ?_) (Ev.now _)
      simp only [impl_EncodePointers.l0, impl_in.f]
      rw [if_pos (by omega), if_pos (by omega), if_pos (by omega)]
      by_cases c : rd l (i : Int) ≥ 0
      · rw [if_pos c, Option.bind_some, if_neg (by simp; omega)]
      · rw [if_neg c, Option.bind_some, if_neg (by simp)]
theorem enc_ev (l : List Int) (hl : l.length = 32) : ((∀ j, j < 32 → okP l j) → ∃ r, Ev (fun k => impl_EncodePointers.f k l) r ∧ r.length = 64) ∧ ((∃ j, j < 32 ∧ ¬ okP l j) → Ev (fun k => impl_EncodePointers.f k l) []) := by
  obtain ⟨h1, h2⟩ := eloop l hl 32 0 [] rfl rfl
  have st : ∀ q, Ev (fun k => impl_EncodePointers.l0 k (List.replicate 64 0) l (l.length : Int) 0) q → Ev (fun k => impl_EncodePointers.f k l) q := fun q h =>
    Ev.congr (fun k => by unfold impl_EncodePointers.f; rw [if_pos (by omega), if_pos (by omega)]) h
  refine ⟨fun h => ?_, fun ⟨j, q1, q2⟩ => st _ (h2 ⟨j, Nat.zero_le _, q1, q2⟩)⟩
  obtain ⟨r, e1, e2⟩ := h1 (fun j _ hj => h j hj)
  exact ⟨r, st r e1, e2⟩
/-- Both read on from place i; the reference stops at the first number that is no block's. -/
theorem dl (l : List Int) (hb : ∀ x ∈ l, 0 ≤ x ∧ x ≤ 255) (hl : l.length = 64) (d : Nat) : ∀ (i : Nat) (a : List Int), i + d = 32 → a.length = i →
    (∃ p : List Int, p.length = 32 ∧ (∀ j, j < i → rd p (j : Int) = rd a (j : Int)) ∧ (∀ q, Ev (fun k => (impl_EncodePointers.f k p).bind fun t144 => (if (t144.length : Int) = 0 then (some ([] : List Int)) else (some p))) q → Ev (fun k => impl_DecodePointers.l0 k l a (i : Int)) q) ∧
      ((∀ j, i ≤ j → j < 32 → okP p j) → Ev (fun k => spec_DecodePointers.l0 k l a (i : Int)) p) ∧ ((∃ j, i ≤ j ∧ j < 32 ∧ ¬ okP p j) → Ev (fun k => spec_DecodePointers.l0 k l a (i : Int)) [])) := by
  induction d with
  | zero =>
    intro i a hi ha
    refine ⟨a, by omega, fun _ _ => rfl, fun q h => ?_, fun _ => ?_, fun ⟨j, h1, h2, _⟩ => by omega⟩
    · exact Ev.step (fun k => by simp only [impl_DecodePointers.l0]; rw [if_neg (by omega)]) h
    · exact Ev.step (f := fun _ => some a) (fun k => by simp only [spec_DecodePointers.l0]; rw [if_neg (by omega)]) (Ev.now _)
  | succ d ih =>
    intro i a hi ha
    have hw : wrap64 ((i : Int) + 1) = ((i + 1 : Nat) : Int) := by rw [w64 (by omega) (by omega)]; rfl
    have hw2 : wrap64 (2 * (i : Int)) = ((2 * i : Nat) : Int) := by rw [w64 (by omega) (by omega)]; omega
    have hw3 : wrap64 (((2 * i : Nat) : Int) + 2) = ((2 * i + 2 : Nat) : Int) := by rw [w64 (by omega) (by omega)]; rfl
    obtain ⟨v, g1, g2⟩ := num_both l hb hl (2 * i) (by omega)
    obtain ⟨p, p1, p2, p3, p4, p5⟩ := ih (i + 1) (a ++ [v]) (by omega) (by simp; omega)
    have hv : rd p (i : Int) = v := by
      rw [p2 i (by omega), rd_nat _ i (by simp; omega), List.getElem_append_right (by omega)]; simp [ha]
    have hgb : spec_l3GoodBlock.f v = some (decide (0 ≤ v ∧ v < 2048)) := by
      unfold spec_l3GoodBlock.f
      by_cases c : v ≥ 0
      · rw [if_pos c]; congr 1; simp; omega
      · rw [if_neg c]; simp; omega
    have ss : ∀ q, Ev (fun k => if decide (0 ≤ v ∧ v < 2048) = true then (spec_DecodePointers.l0 k l (a ++ [v]) ((i + 1 : Nat) : Int)) else (some [])) q → Ev (fun k => spec_DecodePointers.l0 k l a (i : Int)) q := by
      intro q h
      refine Ev.step (f := fun k => (spec_GetNumber.f k ((l.take (2 * i + 2)).drop (2 * i))).bind fun t113 => ((spec_l3GoodBlock.f t113).bind fun t114 => (if t114 = true then (if a.length < 17592186044416 then (spec_DecodePointers.l0 k l (a ++ [t113]) ((i + 1 : Nat) : Int)) else (none)) else (some (([] : List Int)))))) (fun k => ?_) ?_
      · simp only [spec_DecodePointers.l0]
        rw [if_pos (by omega), hw2, hw3, hw, if_pos (by omega), if_pos (by omega), if_pos (by omega), Int.toNat_natCast, Int.toNat_natCast]
      · refine g1.bind ?_
        exact Ev.congr (fun k => by rw [hgb, Option.bind_some, if_pos (show a.length < 17592186044416 by omega)]) h
    refine ⟨p, p1, fun j hj => ?_, fun q h => ?_, fun h => ?_, fun ⟨j, h1, h2, h3⟩ => ?_⟩
    · rw [p2 j (by omega), rd_nat _ j (by simp; omega), rd_nat _ j (by omega), List.getElem_append_left]
    · refine Ev.step (f := fun k => (impl_num.f k l ((2 * i : Nat) : Int) 2).bind fun t140 => (if a.length < 17592186044416 then (impl_DecodePointers.l0 k l (a ++ [t140]) ((i + 1 : Nat) : Int)) else (none))) (fun k => by simp only [impl_DecodePointers.l0]; rw [if_pos (by omega), hw2, hw]) ?_
      exact g2.bind (Ev.congr (fun k => if_pos (by omega)) (p3 q h))
    · have hi0 := h i (Nat.le_refl _) (by omega)
      unfold okP at hi0
      rw [hv] at hi0
      exact ss _ (Ev.congr (fun k => if_pos (decide_eq_true hi0)) (p4 (fun j q1 q2 => h j (by omega) q2)))
    · by_cases hi0 : 0 ≤ v ∧ v < 2048
      · refine ss _ (Ev.congr (fun k => if_pos (decide_eq_true hi0)) (p5 ⟨j, ?_, h2, h3⟩))
        rcases Nat.lt_or_eq_of_le h1 with h | h
        · exact h
        · subst h; exact absurd (by unfold okP; rw [hv]; exact hi0) h3
      · exact ss _ (Ev.congr (fun k => if_neg (by simpa using hi0)) (Ev.now _))
theorem both (l : List Int) (hb : ∀ x ∈ l, 0 ≤ x ∧ x ≤ 255) : ∃ r, Ev (fun k => spec_DecodePointers.f k l) r ∧ Ev (fun k => impl_DecodePointers.f k l) r ∧ r.length ≤ 32 := by
  by_cases h : (l.length : Int) = 64
  · obtain ⟨p, p1, _, p3, p4, p5⟩ := dl l hb (by omega) 32 0 [] rfl rfl
    obtain ⟨e1, e2⟩ := enc_ev p p1
    by_cases g : ∀ j, j < 32 → okP p j
    · obtain ⟨z, z1, z2⟩ := e1 g
      refine ⟨p, Ev.congr (fun k => by unfold spec_DecodePointers.f; rw [Option.bind_some, if_pos h]; rfl) (p4 (fun j _ hj => g j hj)), Ev.congr (fun k => by unfold impl_DecodePointers.f; rw [if_pos h]; rfl) (p3 p (z1.bind (Ev.congr (fun k => if_neg (by omega)) (Ev.now _)))), by omega⟩
    · have g' : ∃ j, j < 32 ∧ ¬ okP p j := by
        apply Classical.byContradiction; intro n
        exact g (fun j hj => Classical.byContradiction fun m => n ⟨j, hj, m⟩)
      obtain ⟨j, j1, j2⟩ := g'
      refine ⟨[], Ev.congr (fun k => by unfold spec_DecodePointers.f; rw [Option.bind_some, if_pos h]; rfl) (p5 ⟨j, Nat.zero_le _, j1, j2⟩), Ev.congr (fun k => by unfold impl_DecodePointers.f; rw [if_pos h]; rfl) (p3 [] ((e2 ⟨j, j1, j2⟩).bind (Ev.congr (fun k => if_pos rfl) (Ev.now _)))), by simp⟩
  · exact ⟨[], Ev.congr (fun k => by unfold spec_DecodePointers.f; rw [Option.bind_some, if_neg h]) (Ev.now _), Ev.congr (fun k => by unfold impl_DecodePointers.f; rw [if_neg h]) (Ev.now _), by simp⟩
end EP
theorem FnExactDecodePointers : laws_FnExactDecodePointers.Pure := by
  intro l _ hl hw
  by_cases h : (l.length : Int) > 1048576
  · exact ⟨0, by unfold laws_FnExactDecodePointers.f; rw [if_pos h]⟩
  have t := toS_ev (F := laws_toByteS.f) (fun _ _ => rfl) (fun _ _ _ _ => rfl) l (by omega) (by omega)
  have et := eqS_ev (F := laws_eqByteS.f) (fun _ _ _ => rfl) (fun _ _ _ _ => rfl) l (by omega)
  have mt : Ev (fun k => laws_markByteS.f k l 1) _ := mark_ev (fun x => x % 256) (L := laws_markByteS.l0) (fun _ _ _ _ => rfl) l 1 (by omega) (by omega)
  obtain ⟨r, s, i, hr⟩ := EP.both l (fun x hx => wfb (hw x hx))
  have e := eqS_ev (F := laws_eqInt64S.f) (fun _ _ _ => rfl) (fun _ _ _ _ => rfl) r (by omega)
  have m : Ev (fun k => laws_markInt64S.f k r 1) _ := mark_ev (fun x => x) (L := laws_markInt64S.l0) (fun _ _ _ _ => rfl) r 1 (by omega) (by omega)
  have hd : Ev (fun k => laws_heldInt64S.f k _ 1) _ := held_ev (fun x => x) (L := laws_heldInt64S.l0) (fun _ _ _ _ => rfl) r.length 1 (by omega) (by omega)
  refine Ev.rounds (Ev.congr (fun k => by unfold laws_FnExactDecodePointers.f; rw [if_neg h]) ?_)
  refine t.bind ?_
  refine s.bind ?_
  refine t.bind ?_
  refine i.bind ?_
  refine e.bind ?_
  refine Ev.congr (fun k => if_pos rfl) ?_
  refine t.bind ?_
  refine et.bind ?_
  refine Ev.congr (fun k => if_pos rfl) ?_
  refine mt.bind ?_
  refine Ev.congr (fun k => if_neg (by simp only; omega)) ?_
  refine e.bind ?_
  refine Ev.step (fun k => by simp only [laws_FnExactDecodePointers.j0]; rw [if_neg (by decide)]) ?_
  refine m.bind ?_
  refine hd.bind ?_
  refine Ev.congr (fun k => if_neg (by omega)) ?_
  refine Ev.congr (fun k => if_pos rfl) ?_
  refine t.bind ?_
  refine i.bind ?_
  refine e.bind ?_
  refine Ev.congr (fun k => if_pos rfl) ?_
  refine hd.bind ?_
  refine Ev.congr (fun k => if_neg (by omega)) ?_
  exact Ev.congr (fun k => if_pos rfl) (Ev.now true)
end Go.Proofs.Ytplefdkookhlhaa.Pure
