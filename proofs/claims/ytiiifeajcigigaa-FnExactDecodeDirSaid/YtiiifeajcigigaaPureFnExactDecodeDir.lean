/- FnExactDecodeDir: at every list of bytes the program's DecodeDir returns what the reference's returns, in memory of its own; the bytes stay as they were. -/
import Derived.Test.YtiiifeajcigigaaPFnExactDecodeDirx
import Derived.Test.YtiiifeajcigigaaVDDHlp2
namespace Go.Proofs.Ytiiifeajcigigaa.Pure
open Go.RowKit Go.Proofs.Ytiiifeajcigigaa.PFnExactDecodeDir Go.Proofs.YtiiifeajcigigaaW.PrintWords Go.Proofs.YtiiifeajcigigaaW.PrintLast Go.Proofs.YtiiifeajcigigaaW.PrintMore Go.Proofs.Ytiiifeajcigigaa.Hlp
set_option linter.unusedVariables false
namespace GN
/-- The number that the bytes say, the first the greatest. -/
def val (l : List Int) : Int := l.foldl (fun v c => v * 256 + c) 0
theorem val_nil : val [] = 0 := rfl
theorem val_snoc (l : List Int) (c : Int) : val (l ++ [c]) = val l * 256 + c := by unfold val; rw [List.foldl_append]; rfl
theorem val_bd (l : List Int) (hb : ∀ x ∈ l, 0 ≤ x ∧ x ≤ 255) (n : Nat) : n ≤ l.length → 0 ≤ val (l.take n) ∧ val (l.take n) < 256 ^ n := by
  induction n with
  | zero => intro _; simp [val]
  | succ n ih =>
    intro h
    have := ih (by omega)
    rw [List.take_succ_eq_append_getElem (by omega), val_snoc, Int.pow_succ]
    have := hb l[n] (List.getElem_mem _)
    omega
theorem val_take_lt (l : List Int) (hb : ∀ x ∈ l, 0 ≤ x ∧ x ≤ 255) (h8 : l.length ≤ 8) (ht : l.length = 8 → rd l 0 ≤ 127) (n : Nat) (hn : n < l.length) : 0 ≤ val (l.take n) ∧ val (l.take n) < 2 ^ 55 ∧ 0 ≤ l[n] ∧ l[n] ≤ 255 := by
  have h := val_bd l hb n (by omega)
  have hc := hb l[n] (List.getElem_mem _)
  refine ⟨h.1, ?_, hc.1, hc.2⟩
  by_cases h7 : n = 7
  · subst h7
    have h1 := ht (by omega)
    match l, hn with
    | a :: b :: c :: d :: e :: f :: g :: r, _ =>
      have ha := hb a (by simp); have hb1 := hb b (by simp); have hc1 := hb c (by simp); have hd1 := hb d (by simp); have he := hb e (by simp); have hf := hb f (by simp); have hg := hb g (by simp)
      have h1' : a ≤ 127 := h1
      show val [a, b, c, d, e, f, g] < 2 ^ 55
      simp only [val, List.foldl]; omega
  · have h6 : n = 0 ∨ n = 1 ∨ n = 2 ∨ n = 3 ∨ n = 4 ∨ n = 5 ∨ n = 6 := by omega
    have h2 := h.2
    rcases h6 with e | e | e | e | e | e | e <;> rw [e] at h2 ⊢ <;> omega
theorem spec_loop (l : List Int) (hb : ∀ x ∈ l, 0 ≤ x ∧ x ≤ 255) (h8 : l.length ≤ 8) (ht : l.length = 8 → rd l 0 ≤ 127) (d : Nat) : ∀ n : Nat, n + d = l.length → Ev (fun k => spec_GetNumber.l0 k l (val (l.take n)) (n : Int)) (val l) := by
  induction d with
  | zero =>
    intro n hn
    have : l.take n = l := List.take_of_length_le (by omega)
    rw [this]
    exact Ev.step (f := fun _ => some (val l)) (fun k => by simp only [spec_GetNumber.l0]; rw [if_neg (by omega)]) (Ev.now _)
  | succ d ih =>
    intro n hn
    have hv := val_take_lt l hb h8 ht n (by omega)
    refine Ev.step (f := fun k => spec_GetNumber.l0 k l (val (l.take (n + 1))) ((n + 1 : Nat) : Int)) (fun k => ?_) (ih (n + 1) (by omega))
    simp only [spec_GetNumber.l0]
    rw [if_pos (by omega), if_pos (by omega), rd_nat l n (by omega), List.take_succ_eq_append_getElem (by omega), val_snoc]
    rw [w64 (x := val (l.take n) * 256) (by omega) (by omega), w64 (x := l[n]) (by omega) (by omega), w64 (by omega) (by omega), w64 (by omega) (by omega)]
    rfl
theorem impl_loop (l : List Int) (hb : ∀ x ∈ l, 0 ≤ x ∧ x ≤ 255) (h8 : l.length ≤ 8) (ht : l.length = 8 → rd l 0 ≤ 127) (d : Nat) : ∀ n : Nat, n + d = l.length → Ev (fun k => impl_GetNumber.l0 k (val (l.take n)) l (l.length : Int) (n : Int)) (val l) := by
  induction d with
  | zero =>
    intro n hn
    have : l.take n = l := List.take_of_length_le (by omega)
    rw [this]
    exact Ev.step (f := fun _ => some (val l)) (fun k => by simp only [impl_GetNumber.l0]; rw [if_neg (by omega)]) (Ev.now _)
  | succ d ih =>
    intro n hn
    have hv := val_take_lt l hb h8 ht n (by omega)
    refine Ev.step (f := fun k => impl_GetNumber.l0 k (val (l.take (n + 1))) l (l.length : Int) ((n + 1 : Nat) : Int)) (fun k => ?_) (ih (n + 1) (by omega))
    simp only [impl_GetNumber.l0]
    rw [if_pos (by omega), if_pos (by omega), if_pos (by omega), rd_nat l n (by omega), List.take_succ_eq_append_getElem (by omega), val_snoc]
    rw [w64 (x := val (l.take n) * 256) (by omega) (by omega), w64 (x := l[n]) (by omega) (by omega), i64_orb _ _ hv.1 hv.2.1 hv.2.2.1 (by omega), w64 (by omega) (by omega)]
    rfl
/-- What both say. -/
def numOf (l : List Int) : Int := if l.length = 0 ∨ l.length > 8 ∨ (l.length = 8 ∧ rd l 0 > 127) then -1 else val l
theorem spec_ev (l : List Int) (hb : ∀ x ∈ l, 0 ≤ x ∧ x ≤ 255) : Ev (fun k => spec_GetNumber.f k l) (numOf l) := by
  have hj : ∀ k b, spec_GetNumber.j0 (k + 1) l b = if b = true then (some (-1)) else (spec_GetNumber.l0 k l 0 0) := fun _ _ => rfl
  by_cases h : l.length = 0 ∨ l.length > 8 ∨ (l.length = 8 ∧ rd l 0 > 127)
  · have : numOf l = -1 := by unfold numOf; rw [if_pos h]
    rw [this]
    refine Ev.step (f := fun _ => some (-1)) (fun k => ?_) (Ev.now _)
    unfold spec_GetNumber.f
    rcases h with h | h | ⟨h, h2⟩
    · rw [if_pos (by omega), hj, if_pos rfl]
    · rw [if_neg (by omega), if_pos (by omega), hj, if_pos rfl]
    · rw [if_neg (by omega), if_neg (by omega), if_pos (by omega), if_pos (by omega), hj, if_pos (decide_eq_true h2)]
  · have : numOf l = val l := by unfold numOf; rw [if_neg h]
    rw [this]
    refine Ev.step (f := fun k => spec_GetNumber.l0 k l (val (l.take 0)) ((0 : Nat) : Int)) (fun k => ?_) (spec_loop l hb (by omega) (by omega) l.length 0 (by omega))
    unfold spec_GetNumber.f
    rw [if_neg (by omega), if_neg (by omega)]
    by_cases h8 : l.length = 8
    · rw [if_pos (by omega), if_pos (by omega), hj, if_neg (by simp; omega)]; rfl
    · rw [if_neg (by omega), hj, if_neg (by simp)]; rfl
theorem impl_ev (l : List Int) (hb : ∀ x ∈ l, 0 ≤ x ∧ x ≤ 255) : Ev (fun k => impl_GetNumber.f k l) (numOf l) := by
  have hj : ∀ k b, impl_GetNumber.j0 (k + 1) l b = if b = true then (some (-1)) else (impl_GetNumber.l0 k 0 l (l.length : Int) 0) := fun _ _ => rfl
  by_cases h : l.length = 0 ∨ l.length > 8 ∨ (l.length = 8 ∧ rd l 0 > 127)
  · have : numOf l = -1 := by unfold numOf; rw [if_pos h]
    rw [this]
    refine Ev.step (f := fun _ => some (-1)) (fun k => ?_) (Ev.now _)
    unfold impl_GetNumber.f
    rcases h with h | h | ⟨h, h2⟩
    · rw [if_pos (by omega), hj, if_pos rfl]
    · rw [if_neg (by omega), if_pos (by omega), hj, if_pos rfl]
    · rw [if_neg (by omega), if_neg (by omega), if_pos (by omega), if_pos (by omega), hj, if_pos (decide_eq_true (by omega))]
  · have : numOf l = val l := by unfold numOf; rw [if_neg h]
    rw [this]
    refine Ev.step (f := fun k => impl_GetNumber.l0 k (val (l.take 0)) l (l.length : Int) ((0 : Nat) : Int)) (fun k => ?_) (impl_loop l hb (by omega) (by omega) l.length 0 (by omega))
    unfold impl_GetNumber.f
    rw [if_neg (by omega), if_neg (by omega)]
    by_cases h8 : l.length = 8
    · rw [if_pos (by omega), if_pos (by omega), hj, if_neg (by simp; omega)]; rfl
    · rw [if_neg (by omega), hj, if_neg (by simp)]; rfl
end GN
namespace EP
/-- n bytes of v, the greatest first. -/
def be : Nat → Int → List Int
  | 0, _ => []
  | n + 1, v => be n (v / 256) ++ [v % 256]
theorem be_len : ∀ (n : Nat) (v : Int), (be n v).length = n
  | 0, _ => rfl
  | n + 1, v => by simp [be, be_len n]
/-- What both say. -/
def putOf (v n : Int) : List Int := if n < 1 ∨ n > 8 ∨ v < 0 ∨ v / 256 ^ n.toNat > 0 then [] else be n.toNat v
theorem putOf_len (v n : Int) : (putOf v n).length ≤ 8 := by
  unfold putOf; split
  · simp
  · rw [be_len]; omega
theorem div_pow (v : Int) (d : Nat) : v / 256 / 256 ^ d = v / 256 ^ (d + 1) := by
  rw [Int.ediv_ediv_of_nonneg (by omega), Int.pow_succ, Int.mul_comm]
theorem putSpec_loop (n : Int) (hn : n ≤ 8) (d : Nat) : ∀ (v : Int) (i : Nat) (out : List Int), 0 ≤ v → v ≤ 9223372036854775807 → (i : Int) + d = n → out.length = i →
    Ev (fun k => spec_PutNumber.l0 k v n out (i : Int)) (if v / 256 ^ d > 0 then [] else be d v ++ out) := by
  induction d with
  | zero =>
    intro v i out h0 h1 hi hl
    refine Ev.step (f := fun _ => some (if v / 256 ^ 0 > 0 then [] else be 0 v ++ out)) (fun k => ?_) (Ev.now _)
    simp only [spec_PutNumber.l0]
    rw [if_neg (by omega), show v / 256 ^ 0 = v by simp]
    by_cases h : v > 0
    · rw [if_pos h, if_pos h]
    · rw [if_neg h, if_neg h]; rfl
  | succ d ih =>
    intro v i out h0 h1 hi hl
    have h := ih (v / 256) (i + 1) ([v % 256] ++ out) (by omega) (by omega) (by omega) (by simp only [List.length_append, List.length_cons, List.length_nil]; omega)
    rw [div_pow] at h
    refine Ev.step (f := fun k => spec_PutNumber.l0 k (v / 256) n ([v % 256] ++ out) ((i + 1 : Nat) : Int)) (fun k => ?_) ?_
    · simp only [spec_PutNumber.l0, Option.bind_some]
      rw [if_pos (by omega), if_pos (by simp [hl]; omega), Int.tmod_eq_emod_of_nonneg h0, Int.tdiv_eq_ediv_of_nonneg h0, w64 (by omega) (by omega), w64 (by omega) (by omega), show v % 256 % 256 = v % 256 by omega]; rfl
    · rwa [show be (d + 1) v ++ out = be d (v / 256) ++ ([v % 256] ++ out) by simp [be]]
theorem putSpec_ev (v n : Int) (hv : v ≤ 9223372036854775807) : Ev (fun k => spec_PutNumber.f k v n) (putOf v n) := by
  have hj : ∀ k b, spec_PutNumber.j0 (k + 1) v n b = if b = true then (some (([] : List Int))) else (spec_PutNumber.l0 k v n (([] : List Int)) 0) := fun _ _ => rfl
  by_cases c1 : n < 1
  · have : putOf v n = [] := by unfold putOf; rw [if_pos (.inl c1)]
    rw [this]
    exact Ev.step (f := fun _ => some []) (fun k => by unfold spec_PutNumber.f; rw [if_pos c1, hj, if_pos rfl]) (Ev.now _)
  by_cases c2 : n > 8
  · have : putOf v n = [] := by unfold putOf; rw [if_pos (.inr (.inl c2))]
    rw [this]
    exact Ev.step (f := fun _ => some []) (fun k => by unfold spec_PutNumber.f; rw [if_neg c1, if_pos c2, hj, if_pos rfl]) (Ev.now _)
  by_cases c3 : v < 0
  · have : putOf v n = [] := by unfold putOf; rw [if_pos (.inr (.inr (.inl c3)))]
    rw [this]
    exact Ev.step (f := fun _ => some []) (fun k => by unfold spec_PutNumber.f; rw [if_neg c1, if_neg c2, hj, if_pos (decide_eq_true c3)]) (Ev.now _)
  have h := putSpec_loop n (by omega) n.toNat v 0 [] (by omega) hv (by omega) rfl
  have e : putOf v n = if v / 256 ^ n.toNat > 0 then [] else be n.toNat v ++ [] := by
    unfold putOf
    by_cases c : v / 256 ^ n.toNat > 0
    · rw [if_pos (.inr (.inr (.inr c))), if_pos c]
    · rw [if_neg (by omega), if_neg c]; simp
  rw [e]
  exact Ev.step (fun k => by unfold spec_PutNumber.f; rw [if_neg c1, if_neg c2, hj, if_neg (by simpa using c3)]) (show Ev (fun k => spec_PutNumber.l0 k v n [] 0) _ from h)
theorem be_get : ∀ (n : Nat) (v : Int) (i : Nat) (h : i < (be n v).length), (be n v)[i] = v / 256 ^ (n - 1 - i) % 256
  | 0, _, i, h => by simp [be] at h
  | n + 1, v, i, h => by
    have hl := be_len n (v / 256)
    by_cases hi : i < n
    · simp only [be]
      rw [List.getElem_append_left (by omega), be_get n (v / 256) i (by omega), div_pow, show n - 1 - i + 1 = n + 1 - 1 - i by omega]
    · have hi' : i = n := by simp [be, hl] at h; omega
      subst hi'
      simp only [be]
      rw [List.getElem_append_right (by omega)]
      simp [hl]
theorem pow8 (m : Nat) : (2 : Int) ^ (8 * m) = 256 ^ m := by rw [Int.pow_mul]; rfl
theorem shr8 (v : Int) (m : Nat) (hm : m ≤ 8) : shr .i64 v ((8 * m : Nat) : Int) = v / 256 ^ m := by
  unfold shr; rw [Int.toNat_natCast, Nat.min_eq_left (by simp only [IntKind.bits]; omega), pow8]
theorem putImpl_loop (v : Int) (n : Nat) (hn : n ≤ 8) : Ev (fun k => impl_PutNumber.l0 k v (n : Int) (List.replicate n 0) (n : Int) 0) (be n v) := by
  have h := fill_ev (L := fun k x i => impl_PutNumber.l0 k v (n : Int) x (n : Int) i) (List.range n) (fun i => v / 256 ^ (n - 1 - i) % 256)
    (fun i x h hx r hr => by
      simp only [List.length_range] at h hx
      refine Ev.step (fun k => ?_) hr
      simp only [impl_PutNumber.l0]
      have e : wrap64 (8 * (wrap64 ((wrap64 ((n : Int) - 1)) - i))) = ((8 * (n - 1 - i) : Nat) : Int) := by
        rw [w64 (x := (n : Int) - 1) (by omega) (by omega), w64 (x := (n : Int) - 1 - i) (by omega) (by omega), w64 (by omega) (by omega)]; omega
      rw [if_pos (by omega), e, if_pos (by omega), if_pos (by omega), if_pos (by omega), shr8 _ _ (by omega), w64 (by omega) (by omega)]
      simp)
    (fun x hx => by
      simp only [List.length_range] at hx ⊢
      exact Ev.step (f := fun _ => some x) (fun k => by simp only [impl_PutNumber.l0]; rw [if_neg (by omega)]) (Ev.now _))
    (List.replicate n 0) (by simp)
  have e : (List.range n).map (fun i => v / 256 ^ (n - 1 - i) % 256) = be n v := by
    apply List.ext_getElem
    · simp [be_len]
    · intro i h1 h2
      rw [be_get]; simp
  rwa [e] at h
theorem lt256 (v : Int) (h0 : 0 ≤ v) (h1 : v ≤ 9223372036854775807) : v / 256 ^ 8 = 0 := by
  have : (256 : Int) ^ 8 = 18446744073709551616 := by decide
  rw [this]; omega
theorem putImpl_ev (v n : Int) (hv : v ≤ 9223372036854775807) : Ev (fun k => impl_PutNumber.f k v n) (putOf v n) := by
  have hj : ∀ k b, impl_PutNumber.j0 (k + 1) v n b = if b = true then (some ([] : List Int)) else (if 0 ≤ n then (if (n : Int).toNat ≤ 281474976710656 then ((some (List.replicate (n : Int).toNat 0 : List Int)).bind fun y116 => (impl_PutNumber.l0 k v n y116 (y116.length : Int) 0)) else (none)) else (none)) := fun _ _ => rfl
  by_cases c1 : n < 1
  · have : putOf v n = [] := by unfold putOf; rw [if_pos (.inl c1)]
    rw [this]
    exact Ev.step (f := fun _ => some []) (fun k => by unfold impl_PutNumber.f; rw [if_pos c1, hj, if_pos rfl]) (Ev.now _)
  by_cases c2 : n > 8
  · have : putOf v n = [] := by unfold putOf; rw [if_pos (.inr (.inl c2))]
    rw [this]
    exact Ev.step (f := fun _ => some []) (fun k => by unfold impl_PutNumber.f; rw [if_neg c1, if_pos c2, hj, if_pos rfl]) (Ev.now _)
  by_cases c3 : v < 0
  · have : putOf v n = [] := by unfold putOf; rw [if_pos (.inr (.inr (.inl c3)))]
    rw [this]
    exact Ev.step (f := fun _ => some []) (fun k => by unfold impl_PutNumber.f; rw [if_neg c1, if_neg c2, if_pos c3, hj, if_pos rfl]) (Ev.now _)
  obtain ⟨m, rfl⟩ := Int.eq_ofNat_of_zero_le (show 0 ≤ n by omega)
  have hloop : ∀ b, b = false → Ev (fun k => impl_PutNumber.j0 k v (m : Int) b) (be m v) := fun b hb => by
    refine Ev.step (f := fun k => impl_PutNumber.l0 k v (m : Int) (List.replicate m 0) (m : Int) 0) (fun k => ?_) (putImpl_loop v m (by omega))
    rw [hj, if_neg (by simp [hb]), if_pos (by omega), if_pos (by simp; omega)]; simp
  by_cases c4 : (m : Int) < 8
  · have e8 : wrap64 (8 * (m : Int)) = ((8 * m : Nat) : Int) := by rw [w64 (by omega) (by omega)]; omega
    have hd : 0 ≤ v / 256 ^ m := Int.ediv_nonneg (by omega) (Int.le_of_lt (Int.pow_pos (by decide)))
    by_cases c5 : v / 256 ^ m > 0
    · have : putOf v m = [] := by unfold putOf; rw [if_pos (.inr (.inr (.inr (by simpa using c5))))]
      rw [this]
      exact Ev.step (f := fun _ => some []) (fun k => by unfold impl_PutNumber.f; rw [if_neg c1, if_neg c2, if_neg c3, if_pos c4, e8, if_pos (by omega), shr8 _ _ (by omega), hj, if_pos (by simp; omega)]) (Ev.now _)
    · have : putOf v m = be m v := by unfold putOf; rw [if_neg (by simp; omega)]; simp
      rw [this]
      exact Ev.congr (fun k => by unfold impl_PutNumber.f; rw [if_neg c1, if_neg c2, if_neg c3, if_pos c4, e8, if_pos (by omega), shr8 _ _ (by omega)]) (hloop _ (by simp; omega))
  · have hm8 : m = 8 := by omega
    have : putOf v m = be m v := by
      unfold putOf; rw [if_neg (by subst hm8; have := lt256 v (by omega) hv; simp only [Int.toNat_natCast]; omega)]; simp
    rw [this]
    exact Ev.congr (fun k => by unfold impl_PutNumber.f; rw [if_neg c1, if_neg c2, if_neg c3, if_neg c4]) (hloop _ rfl)
theorem put_ev (b : List Int) (p : Nat) (v n : Int) (hv : v ≤ 9223372036854775807) (hp : p ≤ b.length) : Ev (fun k => impl_put.f k b (p : Int) v n) (splice b p ((putOf v n).take (b.length - p))) := by
  unfold impl_put.f
  refine (putImpl_ev v n hv).bind ?_
  exact Ev.congr (fun k => by rw [if_pos (by omega), if_pos (by omega), Int.toNat_natCast]) (Ev.now _)
theorem put_two (v : Int) (h0 : 0 ≤ v) (h1 : v < 65536) : putOf v 2 = be 2 v := by
  unfold putOf; rw [if_neg (by simp; omega)]; rfl
theorem splice_at (a z x : List Int) (h : x.length ≤ z.length) : splice (a ++ z) a.length (x.take ((a ++ z).length - a.length)) = (a ++ x) ++ z.drop x.length := by
  have e : x.take ((a ++ z).length - a.length) = x := List.take_of_length_le (by rw [List.length_append]; omega)
  rw [e]; unfold splice
  rw [List.take_left, List.drop_append]
  simp
/-- A number of two bytes, put behind what stands, ahead of zeros. -/
theorem put2_ev (a : List Int) (m : Nat) (p : Int) (v : Int) (h0 : 0 ≤ v) (h1 : v < 65536) (hp : p = (a.length : Int)) : Ev (fun k => impl_put.f k (a ++ List.replicate (m + 2) 0) p v 2) ((a ++ be 2 v) ++ List.replicate m 0) := by
  have h := put_ev (a ++ List.replicate (m + 2) 0) a.length v 2 (by omega) (by simp)
  rw [put_two v h0 h1, splice_at a _ _ (by rw [be_len]; simp), be_len] at h
  have e : (List.replicate (m + 2) (0 : Int)).drop 2 = List.replicate m 0 := by simp
  rw [e] at h
  rw [hp]; exact h
theorem bytes_some (s : ByteArray) (hs : s.size ≤ 1048576) (d : Nat) : ∀ i : Nat, i + d = s.size → ∃ r, Ev (fun k => spec_l10Bytes.l0 k s (i : Int)) r := by
  induction d with
  | zero =>
    intro i hi
    exact ⟨true, Ev.step (f := fun _ => some true) (fun k => by simp only [spec_l10Bytes.l0]; rw [if_neg (by omega)]) (Ev.now _)⟩
  | succ d ih =>
    intro i hi
    by_cases h1 : bt s (i : Int) < 33
    · exact ⟨false, Ev.step (f := fun _ => some false) (fun k => by simp only [spec_l10Bytes.l0]; rw [if_pos (by omega), if_pos (by omega), if_pos h1]) (Ev.now _)⟩
    · by_cases h2 : bt s (i : Int) > 126
      · exact ⟨false, Ev.step (f := fun _ => some false) (fun k => by simp only [spec_l10Bytes.l0]; rw [if_pos (by omega), if_pos (by omega), if_neg h1, if_pos h2]) (Ev.now _)⟩
      · obtain ⟨r, h⟩ := ih (i + 1) (by omega)
        exact ⟨r, Ev.step (fun k => by simp only [spec_l10Bytes.l0]; rw [if_pos (by omega), if_pos (by omega), if_neg h1, if_neg h2, show wrap64 ((i : Int) + 1) = ((i + 1 : Nat) : Int) by unfold wrap64; omega]) h⟩
theorem cut_some (s : ByteArray) (c : Int) (hs : s.size ≤ 1048576) (d : Nat) : ∀ (i q : Nat) (a : List ByteArray), i + d = s.size → q ≤ i → a.length ≤ i → ∃ r, Ev (fun k => spec_l10Cut.l0 k s c a (q : Int) (i : Int)) r := by
  induction d with
  | zero =>
    intro i q a hi hq ha
    exact ⟨_, Ev.step (f := fun _ => some (a ++ [s.extract q s.size])) (fun k => by simp only [spec_l10Cut.l0]; rw [if_neg (by omega), if_pos (by omega), if_pos (by omega), if_pos (by omega)]; simp) (Ev.now _)⟩
  | succ d ih =>
    intro i q a hi hq ha
    have hw : wrap64 ((i : Int) + 1) = ((i + 1 : Nat) : Int) := by unfold wrap64; omega
    by_cases h1 : bt s (i : Int) = c
    · obtain ⟨r, h⟩ := ih (i + 1) (i + 1) (a ++ [s.extract q i]) (by omega) (Nat.le_refl _) (by simp; omega)
      exact ⟨r, Ev.step (fun k => by simp only [spec_l10Cut.l0]; rw [if_pos (by omega), if_pos (by omega), if_pos h1, if_pos (by omega), if_pos (by omega), if_pos (by omega), if_pos (by omega), hw]; rfl) h⟩
    · obtain ⟨r, h⟩ := ih (i + 1) q a (by omega) (by omega) (by omega)
      exact ⟨r, Ev.step (fun k => by simp only [spec_l10Cut.l0]; rw [if_pos (by omega), if_pos (by omega), if_neg h1, hw]) h⟩
theorem spec_some (s : ByteArray) (hs : s.size ≤ 1048576) : ∃ r, Ev (fun k => spec_ValidName.f k s) r := by
  obtain ⟨b, hb⟩ := bytes_some s hs s.size 0 (by omega)
  obtain ⟨c, hc⟩ := cut_some s 47 hs s.size 0 0 [] (by omega) (Nat.le_refl _) (by simp)
  have hb' : Ev (fun k => spec_l10Bytes.f k s) b := hb
  have hc' : Ev (fun k => spec_l10Cut.f k s 47) c := hc
  have key : ∃ r, Ev (fun k => (if b = true then (if (s.size : Int) < 1 then (some false) else (if (s.size : Int) > 13 then (some false) else (if s.toList = ([46] : List UInt8) then (some false) else (if s.toList = ([46, 46] : List UInt8) then (some false) else ((spec_l10Cut.f k s 47).bind fun t111 => (some ((t111.length : Int) == 1))))))) else (some false))) r := by
    by_cases h1 : b = true
    · by_cases h2 : (s.size : Int) < 1
      · exact ⟨false, Ev.congr (fun k => by rw [if_pos h1, if_pos h2]) (Ev.now _)⟩
      · by_cases h3 : (s.size : Int) > 13
        · exact ⟨false, Ev.congr (fun k => by rw [if_pos h1, if_neg h2, if_pos h3]) (Ev.now _)⟩
        · by_cases h4 : s.toList = ([46] : List UInt8)
          · exact ⟨false, Ev.congr (fun k => by rw [if_pos h1, if_neg h2, if_neg h3, if_pos h4]) (Ev.now _)⟩
          · by_cases h5 : s.toList = ([46, 46] : List UInt8)
            · exact ⟨false, Ev.congr (fun k => by rw [if_pos h1, if_neg h2, if_neg h3, if_neg h4, if_pos h5]) (Ev.now _)⟩
            · exact ⟨_, Ev.congr (fun k => by rw [if_pos h1, if_neg h2, if_neg h3, if_neg h4, if_neg h5]) (hc'.bind (Ev.now _))⟩
    · exact ⟨false, Ev.congr (fun k => by rw [if_neg h1]) (Ev.now _)⟩
  obtain ⟨r, hr⟩ := key
  exact ⟨r, hb'.bind hr⟩
theorem ejoin_some (a b : List Int) (h : a.length + b.length < 140737488355328) : spec_l2Join.f a b = some (a ++ b) := by
  unfold spec_l2Join.f spec_l1Copy.f
  rw [Option.bind_some, if_pos (by simp; omega), Option.bind_some, if_pos (by simpa using h)]; rfl
theorem ein_tell (a lo hi : Int) : impl_in.f a lo hi = some (decide (lo ≤ a ∧ a ≤ hi)) := by
  unfold impl_in.f
  by_cases c : a ≥ lo
  · rw [if_pos c]; congr 1; simp; omega
  · rw [if_neg c]; simp; omega
theorem eput2 (v : Int) (h0 : 0 ≤ v) (h1 : v < 65536) : Ev (fun k => spec_PutNumber.f k v 2) (be 2 v) := by
  have := putSpec_ev v 2 (by omega)
  rwa [put_two v h0 h1] at this
/-- The sixteen bytes of a good entry. -/
def entOf (n : Int) (s : ByteArray) : List Int := ((be 2 n ++ [(s.size : Int) % 256]) ++ bytesOf s) ++ List.replicate (13 - s.size) 0
theorem entOf_len (n : Int) (s : ByteArray) (h : s.size ≤ 13) : (entOf n s).length = 16 := by
  simp only [entOf, List.length_append, be_len, List.length_cons, List.length_nil, bytesOf_length, List.length_replicate]; omega
/-- What both say of an entry: the bytes, if the entry is good. -/
theorem entry (n : Int) (s : ByteArray) (hs : s.size ≤ 1048576) : ∃ b : Bool, Ev (fun k => spec_ValidName.f k s) b ∧ (b = true → s.size ≤ 13) ∧
    Ev (fun k => spec_EncodeEntry.f k n s) (if b = true ∧ 1 ≤ n ∧ n ≤ 256 then entOf n s else []) ∧ Ev (fun k => impl_EncodeEntry.f k n s) (if b = true ∧ 1 ≤ n ∧ n ≤ 256 then entOf n s else []) := by
  obtain ⟨b, hb⟩ := spec_some s hs
  have hi : Ev (fun k => impl_ValidName.f k s) b := hb
  have hsz : b = true → s.size ≤ 13 := fun e => by
    obtain ⟨k, hk⟩ := Ev.rounds hb
    exact ((vn_of hk).1 e).2.1
  have hg : Ev (fun k => spec_l10GoodEntry.f k n s) (decide (b = true ∧ 1 ≤ n ∧ n ≤ 256)) := by
    unfold spec_l10GoodEntry.f
    refine hb.bind ?_
    by_cases c : b = true
    · by_cases c2 : n ≥ 1
      · exact Ev.congr (fun k => by rw [if_pos c, if_pos c2, show decide (n ≤ 256) = decide (b = true ∧ 1 ≤ n ∧ n ≤ 256) from decide_eq_decide.2 ⟨fun h => ⟨c, c2, h⟩, fun h => h.2.2⟩]) (Ev.now _)
      · exact Ev.congr (fun k => by rw [if_pos c, if_neg c2, decide_eq_false (fun h => c2 h.2.1)]) (Ev.now _)
    · exact Ev.congr (fun k => by rw [if_neg c, decide_eq_false (fun h => c h.1)]) (Ev.now _)
  refine ⟨b, hb, hsz, ?_, ?_⟩
  · unfold spec_EncodeEntry.f
    refine hg.bind ?_
    by_cases g : b = true ∧ 1 ≤ n ∧ n ≤ 256
    · rw [if_pos g]
      have h13 := hsz g.1
      have e1 : wrap64 (16 - (((be 2 n ++ [(s.size : Int) % 256]) ++ bytesOf s).length : Int)) = ((13 - s.size : Nat) : Int) := by
        have e2 : ((be 2 n ++ [(s.size : Int) % 256]) ++ bytesOf s).length = 3 + s.size := by simp only [List.length_append, be_len, List.length_cons, List.length_nil, bytesOf_length]
        rw [e2, w64 (by omega) (by omega)]; omega
      refine Ev.congr (fun k => if_pos (decide_eq_true g)) ?_
      refine (eput2 n (by omega) (by omega)).bind ?_
      refine Ev.congr (fun k => ?_) (Ev.now _)
      rw [Option.bind_some, if_pos (by rw [be_len]; simp), Option.bind_some, if_pos (by simp only [List.length_append, be_len, List.length_cons, List.length_nil]; omega), Option.bind_some, e1]
      unfold spec_l2Zero.f
      rw [if_pos (by omega), if_pos (by omega), Option.bind_some, Int.toNat_natCast, ejoin_some _ _ (by simp only [List.length_append, be_len, List.length_cons, List.length_nil, bytesOf_length, List.length_replicate]; omega), Option.bind_some]
      rfl
    · rw [if_neg g]
      exact Ev.congr (fun k => if_neg (by simpa using g)) (Ev.now _)
  · unfold impl_EncodeEntry.f
    refine Ev.congr (fun k => by rw [ein_tell, Option.bind_some]) ?_
    by_cases c : 1 ≤ n ∧ n ≤ 256
    · refine Ev.congr (fun k => if_pos (decide_eq_true c)) ?_
      refine hi.bind ?_
      by_cases d : b = true
      · rw [if_pos ⟨d, c⟩]
        have h13 := hsz d
        refine Ev.congr (fun k => if_pos d) ?_
        have hp : Ev (fun k => impl_put.f k (List.replicate 16 0) 0 n 2) (be 2 n ++ List.replicate 14 0) := put2_ev [] 14 0 n (by omega) (by omega) rfl
        refine hp.bind ?_
        have e3 : (be 2 n ++ List.replicate 14 0).set 2 ((s.size : Int) % 256) = (be 2 n ++ [(s.size : Int) % 256]) ++ List.replicate 13 0 := rfl
        have e4 := splice_at (be 2 n ++ [(s.size : Int) % 256]) (List.replicate 13 0) (bytesOf s) (by rw [bytesOf_length, List.length_replicate]; exact h13)
        rw [show ((be 2 n ++ [(s.size : Int) % 256]) ++ List.replicate 13 (0 : Int)).length - (be 2 n ++ [(s.size : Int) % 256]).length = 13 from rfl, List.take_of_length_le (by rw [bytesOf_length]; exact h13), bytesOf_length, List.drop_replicate] at e4
        refine Ev.congr (fun k => ?_) (Ev.now _)
        rw [e3]
        exact congrArg some e4
      · rw [if_neg (fun h => d h.1)]
        exact Ev.congr (fun k => if_neg d) (Ev.now _)
    · rw [if_neg (fun h => c h.2)]
      exact Ev.congr (fun k => if_neg (by simpa using c)) (Ev.now _)
theorem str_size (l : List Int) : (strOfNums l).size = l.length := by exact strOfNums_size l
/-- What both say of sixteen bytes: are they just the bytes of the entry that they tell. -/
theorem unentry (l : List Int) (hb : ∀ x ∈ l, 0 ≤ x ∧ x ≤ 255) (hl : l.length ≤ 1048576) : ∃ r : Bool × Int × ByteArray, Ev (fun k => spec_DecodeEntry.f k l) r ∧ Ev (fun k => impl_DecodeEntry.f k l) r ∧ (r.1 = true → ∃ z, Ev (fun k => impl_EncodeEntry.f k r.2.1 r.2.2) z ∧ (strOfNums z).toList = (strOfNums l).toList ∧ r.2.2.size ≤ 13) := by
  have sj : ∀ k b, spec_DecodeEntry.j0 (k + 1) l b = if b = true then (some (false, 0, (⟨#[]⟩ : ByteArray))) else (if 0 ≤ 2 then (if 2 ≤ (l.length : Int) then ((spec_GetNumber.f k ((l.take 2).drop 0)).bind fun t176 => (if 2 < (l.length : Int) then (if 3 ≤ (wrap64 (3 + (wrap64 (rd l 2)))) then (if (wrap64 (3 + (wrap64 (rd l 2)))) ≤ (l.length : Int) then ((spec_EncodeEntry.f k t176 (strOfNums ((l.take ((wrap64 (3 + (wrap64 (rd l 2)))) : Int).toNat).drop 3))).bind fun t180 => ((spec_l2Same.f t180 l).bind fun t183 => (if t183 = true then (some (true, t176, strOfNums ((l.take ((wrap64 (3 + (wrap64 (rd l 2)))) : Int).toNat).drop 3))) else (some (false, 0, (⟨#[]⟩ : ByteArray)))))) else (none)) else (none)) else (none))) else (none)) else (none)) := fun _ _ => rfl
  have ij : ∀ k b, impl_DecodeEntry.j0 (k + 1) l b = if b = true then (some (false, 0, (⟨#[]⟩ : ByteArray))) else ((impl_num.f k l 0 2).bind fun t199 => (if 2 < (l.length : Int) then (if 3 ≤ ((3 + (rd l 2)) % 256) then (if ((3 + (rd l 2)) % 256) ≤ (l.length : Int) then ((impl_EncodeEntry.f k t199 (strOfNums ((l.take (((3 + (rd l 2)) % 256) : Int).toNat).drop 3))).bind fun t203 => ((bytes_Equal.f t203 l).bind fun t206 => (if t206 = true then (some (true, t199, strOfNums ((l.take (((3 + (rd l 2)) % 256) : Int).toNat).drop 3))) else (some (false, 0, (⟨#[]⟩ : ByteArray)))))) else (none)) else (none)) else (none))) := fun _ _ => rfl
  have st : Ev (fun k => spec_DecodeEntry.j0 k l true) (false, 0, (⟨#[]⟩ : ByteArray)) := Ev.step (f := fun _ => some (false, 0, (⟨#[]⟩ : ByteArray))) (fun k => by rw [sj, if_pos rfl]) (Ev.now _)
  have it : Ev (fun k => impl_DecodeEntry.j0 k l true) (false, 0, (⟨#[]⟩ : ByteArray)) := Ev.step (f := fun _ => some (false, 0, (⟨#[]⟩ : ByteArray))) (fun k => by rw [ij, if_pos rfl]) (Ev.now _)
  by_cases h16 : (l.length : Int) = 16
  rotate_left
  · exact ⟨_, Ev.congr (fun k => by unfold spec_DecodeEntry.f; rw [if_neg h16]) st, Ev.congr (fun k => by unfold impl_DecodeEntry.f; rw [if_neg h16]) it, fun h => by cases h⟩
  by_cases h13 : rd l 2 > 13
  · exact ⟨_, Ev.congr (fun k => by unfold spec_DecodeEntry.f; rw [if_pos h16, if_pos (by omega), decide_eq_true h13]) st, Ev.congr (fun k => by unfold impl_DecodeEntry.f; rw [if_pos h16, if_pos (by omega), decide_eq_true h13]) it, fun h => by cases h⟩
  have hr : 0 ≤ rd l 2 := by
    have e : rd l ((2 : Nat) : Int) = l[2]'(by omega) := rd_nat l 2 (by omega)
    have e2 : rd l 2 = l[2]'(by omega) := e
    rw [e2]; exact (hb _ (List.getElem_mem _)).1
  have w1 : wrap64 (rd l 2) = rd l 2 := w64 (by omega) (by omega)
  have w2 : wrap64 (3 + rd l 2) = 3 + rd l 2 := w64 (by omega) (by omega)
  have w3 : (3 + rd l 2) % 256 = 3 + rd l 2 := by omega
  have w4 : wrap64 (0 + 2) = 2 := w64 (by omega) (by omega)
  have hcut : ∀ x ∈ (l.take 2).drop 0, 0 ≤ x ∧ x ≤ 255 := fun x hx => hb x (List.mem_of_mem_take (List.mem_of_mem_drop hx))
  have g1 := GN.spec_ev ((l.take 2).drop 0) hcut
  have g2 := GN.impl_ev ((l.take 2).drop 0) hcut
  obtain ⟨b, _, _, e1, e2⟩ := entry (GN.numOf ((l.take 2).drop 0)) (strOfNums ((l.take (3 + rd l 2).toNat).drop 3)) (by rw [str_size, List.length_drop, List.length_take]; omega)
  generalize (if b = true ∧ 1 ≤ GN.numOf ((l.take 2).drop 0) ∧ GN.numOf ((l.take 2).drop 0) ≤ 256 then entOf (GN.numOf ((l.take 2).drop 0)) (strOfNums ((l.take (3 + rd l 2).toNat).drop 3)) else []) = z at e1 e2
  refine ⟨if ((strOfNums z).toList == (strOfNums l).toList) = true then (true, GN.numOf ((l.take 2).drop 0), strOfNums ((l.take (3 + rd l 2).toNat).drop 3)) else (false, 0, (⟨#[]⟩ : ByteArray)), ?_, ?_, ?_⟩
  · refine Ev.congr (f := fun k => spec_DecodeEntry.j0 k l false) (fun k => by unfold spec_DecodeEntry.f; rw [if_pos h16, if_pos (by omega), decide_eq_false h13]) ?_
    refine Ev.step (fun k => by rw [sj, if_neg (by simp), if_pos (by decide), if_pos (by omega), w1, w2]) ?_
    refine g1.bind ?_
    refine Ev.congr (fun k => by rw [if_pos (by omega), if_pos (by omega), if_pos (by omega)]) ?_
    refine e1.bind ?_
    refine Ev.congr (fun k => ?_) (Ev.now _)
    show (if ((strOfNums z).toList == (strOfNums l).toList) = true then _ else _) = _
    split <;> rfl
  · refine Ev.congr (f := fun k => impl_DecodeEntry.j0 k l false) (fun k => by unfold impl_DecodeEntry.f; rw [if_pos h16, if_pos (by omega), decide_eq_false h13]) ?_
    refine Ev.step (fun k => by rw [ij, if_neg (by simp), w3]) ?_
    have g3 : Ev (fun k => impl_num.f k l 0 2) (GN.numOf ((l.take 2).drop 0)) := by
      unfold impl_num.f
      refine Ev.congr (fun k => by rw [if_pos (by omega), w4, if_pos (by omega), if_pos (by omega)]) ?_
      exact g2.bind (Ev.now _)
    refine g3.bind ?_
    refine Ev.congr (fun k => by rw [if_pos (by omega), if_pos (by omega), if_pos (by omega)]) ?_
    refine e2.bind ?_
    refine Ev.congr (fun k => ?_) (Ev.now _)
    show (if ((strOfNums z).toList == (strOfNums l).toList) = true then _ else _) = _
    split <;> rfl
  · intro h
    by_cases c : ((strOfNums z).toList == (strOfNums l).toList) = true
    · rw [if_pos c]
      exact ⟨z, e2, beq_iff_eq.1 c, by show (strOfNums _).size ≤ 13; rw [str_size, List.length_drop, List.length_take]; omega⟩
    · rw [if_neg c] at h; cases h
end EP
namespace DR
theorem rd106 (l : List S27) (i : Nat) (h : i < l.length) : rd_T27 l (i : Int) = l[i] := by simp [rd_T27, h]
theorem eqES (l : List S27) (hl : l.length ≤ 281474976710656) : Ev (fun k => laws_eqEntryS.f k l l) true := by
  refine Ev.congr (f := fun k => laws_eqEntryS.l0 k l l 0) (fun k => by unfold laws_eqEntryS.f; rw [if_pos rfl]) ?_
  refine eqG_ev (L := laws_eqEntryS.l0) l ?_ ?_
  · intro i hi h
    refine Ev.step (fun k => ?_) h
    simp only [laws_eqEntryS.l0, laws_eqEntry.f]
    rw [if_pos (by omega), if_pos (by omega), if_pos (by omega), w64 (by omega) (by omega)]
    simp
  · exact Ev.step (f := fun _ => some true) (fun k => by simp only [laws_eqEntryS.l0]; rw [if_neg (by omega)]) (Ev.now _)
theorem text_loop (n : Nat) : ∀ (x : Int) (s : ByteArray), 0 ≤ x → x ≤ n → x + s.size ≤ 4611686018427387904 → ∃ r, Ev (fun k => laws_markText.l0 k x s) r := by
  induction n with
  | zero =>
    intro x s h0 h1 h2
    exact ⟨_, Ev.step (f := fun _ => some ((⟨#[109]⟩ : ByteArray) ++ s)) (fun k => by simp only [laws_markText.l0]; rw [if_neg (by omega), if_pos (by omega)]) (Ev.now _)⟩
  | succ n ih =>
    intro x s h0 h1 h2
    by_cases c : x > 0
    · have ht : Int.tdiv x 10 = x / 10 := Int.tdiv_eq_ediv_of_nonneg h0
      have hs : ∀ l : List Int, l.length = 1 → ((strOfNums l) ++ s).size = 1 + s.size := fun l hl => by rw [ByteArray.size_append, strOfNums_size, hl]
      obtain ⟨r, h⟩ := ih (x / 10) ((strOfNums [(wrap64 (48 + (Int.tmod x 10))) % 256]) ++ s) (by omega) (by omega) (by rw [hs _ rfl]; omega)
      exact ⟨r, Ev.step (fun k => by simp only [laws_markText.l0, Option.bind_some]; rw [if_pos c, if_pos (by rw [strOfNums_size]; simp only [List.length_cons, List.length_nil]; omega), ht, w64 (x := x / 10) (by omega) (by omega)]) h⟩
    · exact ⟨_, Ev.step (f := fun _ => some ((⟨#[109]⟩ : ByteArray) ++ s)) (fun k => by simp only [laws_markText.l0]; rw [if_neg c, if_pos (by omega)]) (Ev.now _)⟩
theorem text_some (n : Int) (h : n ≤ 4611686018427387904) : ∃ r, Ev (fun k => laws_markText.f k n) r := by
  by_cases c : n ≤ 0
  · exact ⟨_, Ev.congr (fun k => by unfold laws_markText.f; rw [if_pos c]) (Ev.now (⟨#[109, 48]⟩ : ByteArray))⟩
  · obtain ⟨r, h⟩ := text_loop n.toNat n ⟨#[]⟩ (by omega) (by omega) (by simp [ByteArray.size]; omega)
    exact ⟨r, Ev.congr (fun k => by unfold laws_markText.f; rw [if_neg c]) h⟩
open Classical in
noncomputable def textOf (n : Int) : ByteArray := if h : ∃ t, Ev (fun k => laws_markText.f k n) t then Classical.choose h else ⟨#[]⟩
theorem text_ev (n : Int) (h : n ≤ 4611686018427387904) : Ev (fun k => laws_markText.f k n) (textOf n) := by
  have := text_some n h
  unfold textOf; rw [dif_pos this]; exact Classical.choose_spec this
noncomputable def mkE (_ : S27) (s : Int) : S27 := ⟨s, textOf (s + 1)⟩
theorem markES (l : List S27) (s : Int) (h0 : 0 ≤ s) (hl : l.length ≤ 1048576) (hb : s + (2 * l.length : Nat) ≤ 4194304) : Ev (fun k => laws_markEntryS.f k l s) (s + (2 * l.length : Nat), marksG mkE 2 s l) := by
  refine markG_ev mkE 2 (L := laws_markEntryS.l0) 4194304 ?_ ?_ l s h0 (by omega) hb
  · intro i x s hi hx h0 hs r h
    have hw : wrap64 ((i : Int) + 1) = ((i + 1 : Nat) : Int) := by rw [w64 (by omega) (by omega)]; rfl
    have hs2 : wrap64 (s + 1) = s + 1 := w64 (by omega) (by omega)
    have hs3 : wrap64 (s + 1 + 1) = s + ((2 : Nat) : Int) := by rw [w64 (by omega) (by omega)]; omega
    refine Ev.step (f := fun k => (laws_markText.f k (s + 1)).bind fun t => laws_markEntryS.l0 k (x.set i (⟨s, t⟩ : S27)) (s + ((2 : Nat) : Int)) ((i + 1 : Nat) : Int)) (fun k => ?_) ?_
    · simp only [laws_markEntryS.l0, Option.bind_some]
      rw [if_pos (by omega), if_pos (by omega), hw, hs2, hs3]
      congr 1
      funext t
      rw [Int.toNat_natCast, List.set_set, rd106 _ i (by simpa using hi), List.getElem_set]
      simp
    · exact (text_ev (s + 1) (by omega)).bind h
  · intro x s
    exact Ev.step (f := fun _ => some (s, x)) (fun k => by simp only [laws_markEntryS.l0]; rw [if_neg (by omega)]) (Ev.now _)
theorem heldES (l : List S27) (s : Int) (h0 : 0 ≤ s) (hl : l.length ≤ 1048576) (hb : s + (2 * l.length : Nat) ≤ 4194304) : Ev (fun k => laws_heldEntryS.f k (marksG mkE 2 s l) s) (s + (2 * l.length : Nat)) := by
  refine heldG_ev mkE 2 (L := laws_heldEntryS.l0) 4194304 ?_ ?_ l s h0 (by omega) hb
  · intro i x s b hi hxi hx h0 hs r h
    have hw : wrap64 ((i : Int) + 1) = ((i + 1 : Nat) : Int) := by rw [w64 (by omega) (by omega)]; rfl
    have hs2 : wrap64 (s + 1) = s + 1 := w64 (by omega) (by omega)
    have hs3 : wrap64 (s + 1 + 1) = s + ((2 : Nat) : Int) := by rw [w64 (by omega) (by omega)]; omega
    refine Ev.step (f := fun k => (laws_markText.f k (s + 1)).bind fun t => if (textOf (s + 1)).toList = t.toList then laws_heldEntryS.l0 k x (s + ((2 : Nat) : Int)) ((i + 1 : Nat) : Int) else some (-1)) (fun k => ?_) ?_
    · simp only [laws_heldEntryS.l0]
      rw [if_pos (by omega), if_pos (by omega), rd106 x i hi, hxi, hw, hs2, hs3]
      exact if_pos rfl
    · refine (text_ev (s + 1) (by omega)).bind ?_
      exact Ev.congr (fun k => if_pos rfl) h
  · intro x s
    exact Ev.step (f := fun _ => some s) (fun k => by simp only [laws_heldEntryS.l0]; rw [if_neg (by omega)]) (Ev.now _)
end DR
namespace ED
open DR
def up (l : List S27) (a : ByteArray) : Nat → Nat → Int
  | 0, _ => -1
  | d + 1, i => if (rd_T27 l (i : Int)).f1.toList = a.toList then (i : Int) else up l a d (i + 1)
theorem specUp (l : List S27) (a : ByteArray) (hl : l.length ≤ 1048576) (r : Int) : ∀ (i d : Nat), i + d = l.length → up l a l.length 0 = r → Ev (fun k => spec_DirFind.l0 k l a (up l a d i) ((i : Int) - 1)) r := by
  intro i
  induction i with
  | zero =>
    intro d hd hr
    rw [show d = l.length by omega, hr]
    exact Ev.step (f := fun _ => some r) (fun k => by simp only [spec_DirFind.l0]; rw [if_neg (by omega)]) (Ev.now _)
  | succ i ih =>
    intro d hd hr
    have h := ih (d + 1) (by omega) hr
    refine Ev.step (fun k => ?_) h
    have hw : wrap64 (((i + 1 : Nat) : Int) - 1 - 1) = (i : Int) - 1 := by rw [w64 (by omega) (by omega)]; omega
    have he : ((i + 1 : Nat) : Int) - 1 = (i : Int) := by omega
    simp only [spec_DirFind.l0, up]
    rw [if_pos (by omega), if_pos (by omega), if_pos (by omega), hw, he]
    split
    · rfl
    · rfl
theorem up_le (l : List S27) (a : ByteArray) : ∀ (d i j : Nat), i + d = l.length → i ≤ j → (h : j < l.length) → l[j].f1.toList = a.toList → 0 ≤ up l a d i ∧ up l a d i ≤ j := by
  intro d
  induction d with
  | zero => intro i j hd hj h; omega
  | succ d ih =>
    intro i j hd hj h he
    simp only [up]
    rw [rd106 l i (by omega)]
    by_cases c : l[i].f1.toList = a.toList
    · rw [if_pos c]; omega
    · rw [if_neg c]
      have hne : i ≠ j := fun e => c (by subst e; exact he)
      exact ih (i + 1) j (by omega) (by omega) h he
theorem up_first (l : List S27) (a : ByteArray) : ∀ (d i m : Nat), i + d = l.length → i ≤ m → (h : m < l.length) → l[m].f1.toList = a.toList → (∀ j (hj : j < l.length), i ≤ j → j < m → l[j].f1.toList ≠ a.toList) → up l a d i = m := by
  intro d
  induction d with
  | zero => intro i m hd hm h; omega
  | succ d ih =>
    intro i m hd hm h he hn
    simp only [up]
    rw [rd106 l i (by omega)]
    by_cases c : l[i].f1.toList = a.toList
    · rw [if_pos c]
      have : i = m := by
        rcases Nat.lt_or_ge i m with h2 | h2
        · exact absurd c (hn i (by omega) (Nat.le_refl _) h2)
        · omega
      rw [this]
    · rw [if_neg c]
      have hne : i ≠ m := fun e => c (by subst e; exact he)
      exact ih (i + 1) m (by omega) (by omega) h he (fun j hj h1 h2 => hn j hj (by omega) h2)
theorem find_ev (l : List S27) (a : ByteArray) (hl : l.length ≤ 1048576) : Ev (fun k => spec_DirFind.f k l a) (up l a l.length 0) := by
  have := specUp l a hl _ l.length 0 (by omega) rfl
  refine Ev.congr (fun k => ?_) this
  unfold spec_DirFind.f
  rw [w64 (by omega) (by omega)]; rfl
def u8 (x : List Int) : List UInt8 := x.map fun n => UInt8.ofNat n.toNat
theorem u8_str (x : List Int) : (strOfNums x).toList = u8 x := by rw [ByteArray.toList_eq]; rfl
theorem u8_app (x y : List Int) : u8 (x ++ y) = u8 x ++ u8 y := by simp [u8]
theorem u8_len (x : List Int) : (u8 x).length = x.length := by simp [u8]
/-- z is the sixteen bytes of the entry. -/
def Good (x : S27) (p : List Int) : Prop := ∃ z, Ev (fun k => impl_EncodeEntry.f k x.f0 x.f1) z ∧ u8 z = u8 p ∧ p.length = 16 ∧ x.f1.size ≤ 13
def nm (x : S27) : List UInt8 := x.f1.data.toList
/-- The whole is encoded: the bytes, if no name comes twice; else nothing. -/
theorem enc : ∀ (L : List S27) (ps : List (List Int)), L.length = ps.length → (∀ j (h : j < L.length) (h' : j < ps.length), Good L[j] ps[j]) → ∀ (seen : List (List UInt8)) (b : List Int), b.length + 16 * L.length ≤ 140737488355328 →
    (((L.map nm).Nodup ∧ ∀ x ∈ L, nm x ∉ seen) → ∃ r, Ev (fun k => impl_EncodeDir.l0 k L seen b) r ∧ u8 r = u8 b ++ u8 ps.flatten) ∧ (¬ ((L.map nm).Nodup ∧ ∀ x ∈ L, nm x ∉ seen) → Ev (fun k => impl_EncodeDir.l0 k L seen b) []) := by
  intro L
  induction L with
  | nil =>
    intro ps hl hg seen b hb
    refine ⟨fun _ => ⟨b, Ev.congr (f := fun _ => some b) (fun k => rfl) (Ev.now _), ?_⟩, fun h => absurd ⟨by simp, by simp⟩ h⟩
    obtain rfl : ps = [] := List.eq_nil_of_length_eq_zero hl.symm
    simp [u8]
  | cons x L ih =>
    intro ps hl hg seen b hb
    cases ps with
    | nil => simp at hl
    | cons p ps =>
      obtain ⟨z, ez, hz, h16, h13⟩ := hg 0 (by simp) (by simp)
      simp only [List.getElem_cons_zero] at ez hz h16 h13
      have hz16 : z.length = 16 := by rw [← u8_len, hz, u8_len, h16]
      have hz0 : z ≠ [] := fun h => by rw [h] at hz16; simp at hz16
      have hL : b.length + 16 * (L.length + 1) ≤ 140737488355328 := by simpa using hb
      have hgr : ∀ j (h : j < L.length) (h' : j < ps.length), Good L[j] ps[j] := fun j h h' => by
        have := hg (j + 1) (by simp; omega) (by simp; omega)
        simpa using this
      obtain ⟨i1, i2⟩ := ih ps (by simpa using hl) hgr (nm x :: seen) (b ++ z) (by rw [List.length_append]; omega)
      by_cases c : nm x ∈ seen
      · refine ⟨fun h => absurd c (h.2 x (by simp)), fun _ => ?_⟩
        exact ez.bind (Ev.congr (fun k => by rw [if_neg hz0, if_pos h13]; exact if_pos c) (Ev.now _))
      · have st : ∀ r, Ev (fun k => impl_EncodeDir.l0 k L (nm x :: seen) (b ++ z)) r → Ev (fun k => impl_EncodeDir.l0 k (x :: L) seen b) r := fun r h =>
          ez.bind (Ev.congr (fun k => by rw [if_neg hz0, if_pos h13]; exact (if_neg c).trans (if_pos (by omega))) h)
        have key : ((List.map nm (x :: L)).Nodup ∧ ∀ y ∈ x :: L, nm y ∉ seen) ↔ ((L.map nm).Nodup ∧ ∀ y ∈ L, nm y ∉ nm x :: seen) := by
          rw [List.map_cons, List.nodup_cons]
          constructor
          · rintro ⟨⟨h1, h2⟩, h3⟩
            refine ⟨h2, fun y hy hm => ?_⟩
            rcases List.mem_cons.1 hm with h | h
            · exact h1 (by rw [← h]; exact List.mem_map_of_mem hy)
            · exact h3 y (List.mem_cons_of_mem _ hy) h
          · rintro ⟨h1, h2⟩
            refine ⟨⟨fun hm => ?_, h1⟩, fun y hy hm => ?_⟩
            · obtain ⟨y, hy, he⟩ := List.mem_map.1 hm
              exact h2 y hy (by rw [he]; simp)
            · rcases List.mem_cons.1 hy with rfl | h
              · exact c hm
              · exact h2 y h (List.mem_cons_of_mem _ hm)
        refine ⟨fun h => ?_, fun h => st _ (i2 (fun h' => h (key.2 h')))⟩
        obtain ⟨r, h1, h2⟩ := i1 (key.1 h)
        refine ⟨r, st _ h1, ?_⟩
        rw [h2, u8_app, hz, List.flatten_cons, u8_app, List.append_assoc]
/-- What has been read so far: entries of the first pieces. -/
structure Sofar (l : List Int) (L : List S27) (i : Nat) : Prop where
  len : L.length = i
  good : ∃ ps : List (List Int), ps.length = i ∧ (∀ j (h : j < L.length) (h' : j < ps.length), Good L[j] ps[j]) ∧ ps.flatten = l.take (16 * i)
theorem Sofar.next {l : List Int} {L : List S27} {i : Nat} (h : Sofar l L i) (x : S27) (hx : Good x ((l.take (16 * i + 16)).drop (16 * i))) (hi : 16 * i + 16 ≤ l.length) : Sofar l (L ++ [x]) (i + 1) := by
  obtain ⟨h1, ps, h2, h3, h4⟩ := h
  refine ⟨by simp [h1], ps ++ [(l.take (16 * i + 16)).drop (16 * i)], by simp [h2], fun j hj hj' => ?_, ?_⟩
  · by_cases c : j < L.length
    · rw [List.getElem_append_left c, List.getElem_append_left (by omega)]; exact h3 j c (by omega)
    · obtain rfl : j = L.length := by simp at hj; omega
      rw [List.getElem_append_right (by omega), List.getElem_append_right (by omega)]
      simpa [h1, h2] using hx
  · rw [List.flatten_append, h4, List.flatten_singleton, show 16 * (i + 1) = 16 * i + 16 by omega]
    have e : l.take (16 * i) = (l.take (16 * i + 16)).take (16 * i) := by rw [List.take_take]; congr 1; omega
    rw [e, List.take_append_drop]
theorem fin (l : List Int) (L : List S27) (i : Nat) (h : Sofar l L i) (hi : 16 * i = l.length) (hm : i ≤ 160) : Ev (fun k => (impl_EncodeDir.f k L).bind fun t229 => ((bytes_Equal.f t229 l).bind fun t232 => (if t232 = true then (some (true, L)) else (some (false, ([] : List S27)))))) (if (L.map nm).Nodup then (true, L) else (false, [])) := by
  obtain ⟨h1, ps, h2, h3, h4⟩ := h
  obtain ⟨e1, e2⟩ := enc L ps (by omega) h3 [] [] (by simp; omega)
  have hf : ∀ r, Ev (fun k => impl_EncodeDir.l0 k L [] []) r → Ev (fun k => impl_EncodeDir.f k L) r := fun r h => Ev.congr (fun k => by unfold impl_EncodeDir.f; rw [if_neg (by omega)]) h
  by_cases c : (L.map nm).Nodup
  · obtain ⟨r, hr, hu⟩ := e1 ⟨c, by simp⟩
    rw [if_pos c]
    refine (hf r hr).bind (Ev.congr (fun k => ?_) (Ev.now _))
    unfold bytes_Equal.f
    rw [Option.bind_some, u8_str, u8_str, hu, h4, List.take_of_length_le (by omega)]
    exact if_pos (by simp [u8])
  · have hn := e2 (fun h => c h.1)
    rw [if_neg c]
    refine (hf [] hn).bind (Ev.congr (fun k => ?_) (Ev.now _))
    unfold bytes_Equal.f
    rw [Option.bind_some, u8_str, u8_str]
    refine if_neg (fun h => ?_)
    have h5 := beq_iff_eq.1 h
    have h6 := congrArg List.length h5
    rw [u8_len, u8_len, List.length_nil] at h6
    have : L = [] := List.eq_nil_of_length_eq_zero (by omega)
    subst this
    exact c (by simp)
theorem piece_len (l : List Int) (i : Nat) (hi : 16 * i + 16 ≤ l.length) : ((l.take (16 * i + 16)).drop (16 * i)).length = 16 := by rw [List.length_drop, List.length_take]; omega
/-- Behind a name that comes twice nothing is told. -/
theorem dupLoop (l : List Int) (hb : ∀ x ∈ l, 0 ≤ x ∧ x ≤ 255) (m : Nat) (hm : 16 * m = l.length) (hm2 : m ≤ 160) : ∀ (d i : Nat), i + d = m → ∀ L, Sofar l L i → ¬ (L.map nm).Nodup → Ev (fun k => impl_DecodeDir.l0 k l L ((16 * i : Nat) : Int)) (false, []) := by
  intro d
  induction d with
  | zero =>
    intro i hi L h hn
    have := fin l L i h (by omega) (by omega)
    rw [if_neg hn] at this
    refine Ev.step (fun k => ?_) this
    simp only [impl_DecodeDir.l0]
    rw [if_neg (by omega)]
  | succ d ih =>
    intro i hi L h hn
    have hw : wrap64 (((16 * i : Nat) : Int) + 16) = ((16 * (i + 1) : Nat) : Int) := by rw [w64 (by omega) (by omega)]; omega
    have hlen := h.len
    obtain ⟨r, _, r2, r3⟩ := EP.unentry ((l.take (16 * i + 16)).drop (16 * i)) (fun x hx => hb x (List.mem_of_mem_take (List.mem_of_mem_drop hx))) (by rw [piece_len l i (by omega)]; decide)
    have st : ∀ q, Ev (fun k => (impl_DecodeEntry.f k ((l.take (16 * i + 16)).drop (16 * i))).bind fun bt222 => (if bt222.1 = true then (if L.length < 5864062014805 then (impl_DecodeDir.l0 k l (L ++ [(⟨bt222.2.1, bt222.2.2⟩ : S27)]) ((16 * (i + 1) : Nat) : Int)) else (none)) else (some (false, ([] : List (S27)))))) q → Ev (fun k => impl_DecodeDir.l0 k l L ((16 * i : Nat) : Int)) q := fun q hq => by
      refine Ev.step (fun k => ?_) hq
      simp only [impl_DecodeDir.l0]
      rw [if_pos (by omega), if_pos (by omega), hw, if_pos (by omega), if_pos (by omega), Int.toNat_natCast, Int.toNat_natCast, show 16 * (i + 1) = 16 * i + 16 by omega]
    refine st _ (r2.bind ?_)
    by_cases c : r.1 = true
    · obtain ⟨z, ez, hz, h13⟩ := r3 c
      rw [u8_str, u8_str] at hz
      have hx : Good ⟨r.2.1, r.2.2⟩ ((l.take (16 * i + 16)).drop (16 * i)) := ⟨z, ez, hz, piece_len l i (by omega), h13⟩
      refine Ev.congr (fun k => by rw [if_pos c, if_pos (by omega)]) (ih (i + 1) (by omega) _ (h.next _ hx (by omega)) (fun hd => hn ?_))
      rw [List.map_append] at hd
      exact (List.nodup_append.1 hd).1
    · exact Ev.congr (fun k => if_neg c) (Ev.now _)
theorem up_none (l : List S27) (a : ByteArray) : ∀ (d i : Nat), i + d = l.length → (∀ j (hj : j < l.length), i ≤ j → l[j].f1.toList ≠ a.toList) → up l a d i = -1 := by
  intro d
  induction d with
  | zero => intro i _ _; rfl
  | succ d ih =>
    intro i hi hn
    simp only [up]
    rw [rd106 l i (by omega), if_neg (hn i (by omega) (Nat.le_refl _))]
    exact ih (i + 1) (by omega) (fun j hj h => hn j hj (by omega))
theorem loop (l : List Int) (hb : ∀ x ∈ l, 0 ≤ x ∧ x ≤ 255) (m : Nat) (hm : 16 * m = l.length) (hm2 : m ≤ 160) : ∀ (d i : Nat), i + d = m → ∀ L, Sofar l L i → (L.map nm).Nodup →
    ∃ r : Bool × List S27, Ev (fun k => spec_DecodeDir.l0 k l ((16 * i : Nat) : Int) true L) r ∧ Ev (fun k => impl_DecodeDir.l0 k l L ((16 * i : Nat) : Int)) r ∧ r.2.length ≤ 160 := by
  intro d
  induction d with
  | zero =>
    intro i hi L h hn
    have hlen := h.len
    have := fin l L i h (by omega) (by omega)
    rw [if_pos hn] at this
    refine ⟨(true, L), Ev.step (f := fun _ => some (true, L)) (fun k => by simp only [spec_DecodeDir.l0]; rw [if_neg (by omega)]) (Ev.now _), Ev.step (fun k => ?_) this, by show L.length ≤ 160; omega⟩
    simp only [impl_DecodeDir.l0]
    rw [if_neg (by omega)]
  | succ d ih =>
    intro i hi L h hn
    have hw : wrap64 (((16 * i : Nat) : Int) + 16) = ((16 * (i + 1) : Nat) : Int) := by rw [w64 (by omega) (by omega)]; omega
    have hlen := h.len
    obtain ⟨r, r1, r2, r3⟩ := EP.unentry ((l.take (16 * i + 16)).drop (16 * i)) (fun x hx => hb x (List.mem_of_mem_take (List.mem_of_mem_drop hx))) (by rw [piece_len l i (by omega)]; decide)
    have st : ∀ q, Ev (fun k => (impl_DecodeEntry.f k ((l.take (16 * i + 16)).drop (16 * i))).bind fun bt222 => (if bt222.1 = true then (if L.length < 5864062014805 then (impl_DecodeDir.l0 k l (L ++ [(⟨bt222.2.1, bt222.2.2⟩ : S27)]) ((16 * (i + 1) : Nat) : Int)) else (none)) else (some (false, ([] : List (S27)))))) q → Ev (fun k => impl_DecodeDir.l0 k l L ((16 * i : Nat) : Int)) q := fun q hq => by
      refine Ev.step (fun k => ?_) hq
      simp only [impl_DecodeDir.l0]
      rw [if_pos (by omega), if_pos (by omega), hw, if_pos (by omega), if_pos (by omega), Int.toNat_natCast, Int.toNat_natCast, show 16 * (i + 1) = 16 * i + 16 by omega]
    have ss : ∀ q, Ev (fun k => (spec_DecodeEntry.f k ((l.take (16 * i + 16)).drop (16 * i))).bind fun bt194 => (if bt194.1 = true then ((spec_DirFind.f k L bt194.2.2).bind fun t198 => (if t198 ≥ 0 then (some (false, ([] : List (S27)))) else (if L.length < 5864062014805 then (spec_DecodeDir.l0 k l ((16 * (i + 1) : Nat) : Int) true (L ++ [(⟨bt194.2.1, bt194.2.2⟩ : S27)])) else (none)))) else (some (false, ([] : List (S27)))))) q → Ev (fun k => spec_DecodeDir.l0 k l ((16 * i : Nat) : Int) true L) q := fun q hq => by
      refine Ev.step (fun k => ?_) hq
      simp only [spec_DecodeDir.l0]
      rw [if_pos (by omega), if_pos (by omega), hw, if_pos (by omega), if_pos (by omega), Int.toNat_natCast, Int.toNat_natCast, show 16 * (i + 1) = 16 * i + 16 by omega]
    by_cases c : r.1 = true
    rotate_left
    · exact ⟨(false, []), ss _ (r1.bind (Ev.congr (fun k => if_neg c) (Ev.now _))), st _ (r2.bind (Ev.congr (fun k => if_neg c) (Ev.now _))), by simp⟩
    obtain ⟨z, ez, hz, h13⟩ := r3 c
    rw [u8_str, u8_str] at hz
    have hx : Good ⟨r.2.1, r.2.2⟩ ((l.take (16 * i + 16)).drop (16 * i)) := ⟨z, ez, hz, piece_len l i (by omega), h13⟩
    have hnext := h.next _ hx (by omega)
    have hf := find_ev L r.2.2 (by omega)
    by_cases g : ∃ j, ∃ hj : j < L.length, L[j].f1.toList = r.2.2.toList
    · obtain ⟨j, hj, he⟩ := g
      have hu := up_le L r.2.2 L.length 0 j (by omega) (by omega) hj he
      refine ⟨(false, []), ss _ (r1.bind (Ev.congr (fun k => if_pos c) (hf.bind (Ev.congr (fun k => if_pos (by omega)) (Ev.now _))))), st _ (r2.bind (Ev.congr (fun k => by rw [if_pos c, if_pos (by omega)]) (dupLoop l hb m hm hm2 d (i + 1) (by omega) _ hnext (fun hd => ?_)))), by simp⟩
      rw [List.map_append] at hd
      refine (List.nodup_append.1 hd).2.2 _ (List.mem_map_of_mem (List.getElem_mem hj)) _ (List.mem_map_of_mem (List.mem_singleton.2 rfl)) ?_
      rw [ByteArray.toList_eq, ByteArray.toList_eq] at he
      exact he
    · have hu : up L r.2.2 L.length 0 = -1 := up_none L r.2.2 L.length 0 (by omega) (fun j hj _ he => g ⟨j, hj, he⟩)
      rw [hu] at hf
      obtain ⟨q, q1, q2, q3⟩ := ih (i + 1) (by omega) _ hnext (by
        rw [List.map_append]
        refine List.nodup_append.2 ⟨hn, by simp, fun a ha b hbm hab => ?_⟩
        obtain ⟨y, hy, rfl⟩ := List.mem_map.1 ha
        obtain ⟨j, hj, rfl⟩ := List.getElem_of_mem hy
        simp only [List.map_cons, List.map_nil, List.mem_singleton] at hbm
        refine g ⟨j, hj, ?_⟩
        rw [ByteArray.toList_eq, ByteArray.toList_eq]
        exact hab.trans hbm)
      exact ⟨q, ss _ (r1.bind (Ev.congr (fun k => if_pos c) (hf.bind (Ev.congr (fun k => by rw [if_neg (by omega), if_pos (by omega)]) q1)))), st _ (r2.bind (Ev.congr (fun k => by rw [if_pos c, if_pos (by omega)]) q2)), q3⟩
theorem both2 (l : List Int) (hb : ∀ x ∈ l, 0 ≤ x ∧ x ≤ 255) : ∃ r : Bool × List S27, Ev (fun k => spec_DecodeDir.f k l) r ∧ Ev (fun k => impl_DecodeDir.f k l) r ∧ r.2.length ≤ 160 := by
  have sj : ∀ k b, spec_DecodeDir.j0 (k + 1) l b = if b = true then (some (false, ([] : List (S27)))) else (spec_DecodeDir.l0 k l 0 true ([] : List (S27))) := fun _ _ => rfl
  have ij : ∀ k b, impl_DecodeDir.j0 (k + 1) l b = if b = true then (some (false, ([] : List (S27)))) else (impl_DecodeDir.l0 k l ([] : List (S27)) 0) := fun _ _ => rfl
  have st : Ev (fun k => spec_DecodeDir.j0 k l true) (false, []) := Ev.step (f := fun _ => some (false, [])) (fun k => by rw [sj, if_pos rfl]) (Ev.now _)
  have it : Ev (fun k => impl_DecodeDir.j0 k l true) (false, []) := Ev.step (f := fun _ => some (false, [])) (fun k => by rw [ij, if_pos rfl]) (Ev.now _)
  unfold spec_DecodeDir.f impl_DecodeDir.f
  by_cases c1 : ((l.length : Int) % 16) = 0
  rotate_left
  · exact ⟨(false, []), Ev.congr (fun k => if_neg c1) st, Ev.congr (fun k => if_neg c1) it, by simp⟩
  by_cases c2 : (l.length : Int) > 2560
  · exact ⟨(false, []), Ev.congr (fun k => by rw [if_pos c1, decide_eq_true c2]) st, Ev.congr (fun k => by rw [if_pos c1, decide_eq_true c2]) it, by simp⟩
  obtain ⟨r, r1, r2, r3⟩ := loop l hb (l.length / 16) (by omega) (by omega) (l.length / 16) 0 (by omega) [] ⟨rfl, [], rfl, by simp, by simp⟩ (by simp)
  refine ⟨r, Ev.congr (f := fun k => spec_DecodeDir.j0 k l false) (fun k => by rw [if_pos c1, decide_eq_false c2]) (Ev.step (fun k => ?_) r1), Ev.congr (f := fun k => impl_DecodeDir.j0 k l false) (fun k => by rw [if_pos c1, decide_eq_false c2]) (Ev.step (fun k => ?_) r2), r3⟩
  · rw [sj, if_neg (by simp)]; rfl
  · rw [ij, if_neg (by simp)]; rfl
end ED
theorem FnExactDecodeDir : laws_FnExactDecodeDir.Pure := by
  intro l _ hl hw
  by_cases h : (l.length : Int) > 1048576
  · exact ⟨0, by unfold laws_FnExactDecodeDir.f; rw [if_pos h]⟩
  have t := toS_ev (F := laws_toByteS.f) (fun _ _ => rfl) (fun _ _ _ _ => rfl) l (by omega) (by omega)
  have et := eqS_ev (F := laws_eqByteS.f) (fun _ _ _ => rfl) (fun _ _ _ _ => rfl) l (by omega)
  have mt : Ev (fun k => laws_markByteS.f k l 1) _ := mark_ev (fun x => x % 256) (L := laws_markByteS.l0) (fun _ _ _ _ => rfl) l 1 (by omega) (by omega)
  obtain ⟨⟨g, L⟩, s, i, hL⟩ := ED.both2 l (fun x hx => wfb (hw x hx))
  have hL' : L.length ≤ 160 := hL
  have e : Ev (fun k => laws_eqDirResult.f k g L g L) true := by
    unfold laws_eqDirResult.f
    refine Ev.congr (fun k => if_neg (by simp)) ?_
    exact (DR.eqES L (by omega)).bind (Ev.congr (fun k => if_pos rfl) (Ev.now _))
  have m : Ev (fun k => laws_markDirResult.f k g L 1) (1 + ((2 * L.length : Nat) : Int), marksG DR.mkE 2 1 L) := by
    unfold laws_markDirResult.f
    exact (DR.markES L 1 (by omega) (by omega) (by omega)).bind (Ev.now _)
  have hd : Ev (fun k => laws_heldDirResult.f k g (marksG DR.mkE 2 1 L) 1) (1 + ((2 * L.length : Nat) : Int)) := by
    unfold laws_heldDirResult.f
    exact (DR.heldES L 1 (by omega) (by omega) (by omega)).bind (Ev.congr (fun k => if_neg (by omega)) (Ev.now _))
  refine Ev.rounds (Ev.congr (fun k => by unfold laws_FnExactDecodeDir.f; rw [if_neg h]) ?_)
  refine t.bind ?_
  refine s.bind ?_
  refine t.bind ?_
  refine i.bind ?_
  refine e.bind ?_
  refine Ev.congr (fun k => if_pos rfl) ?_
  refine t.bind ?_
  refine et.bind ?_
  refine Ev.congr (fun k => if_pos rfl) ?_
  refine mt.bind ?_
  refine Ev.congr (fun k => if_neg (by simp only; omega)) ?_
  refine e.bind ?_
  refine Ev.step (fun k => by simp only [laws_FnExactDecodeDir.j0]; rw [if_neg (by decide)]) ?_
  refine m.bind ?_
  refine hd.bind ?_
  refine Ev.congr (fun k => if_neg (by omega)) ?_
  refine Ev.congr (fun k => if_pos rfl) ?_
  refine t.bind ?_
  refine i.bind ?_
  refine e.bind ?_
  refine Ev.congr (fun k => if_pos rfl) ?_
  refine hd.bind ?_
  refine Ev.congr (fun k => if_neg (by omega)) ?_
  exact Ev.congr (fun k => if_pos rfl) (Ev.now true)
end Go.Proofs.Ytiiifeajcigigaa.Pure
