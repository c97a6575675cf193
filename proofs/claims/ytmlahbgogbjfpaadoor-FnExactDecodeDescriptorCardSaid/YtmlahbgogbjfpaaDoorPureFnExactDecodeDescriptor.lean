/- FnExactDecodeDescriptor: at every list of bytes the program's DecodeDescriptor returns what the reference's returns, in memory of its own; the bytes stay as they were. -/
import Derived.Test.YtmlahbgogbjfpaaDoorPFnExactDecodeDescriptorx
import Derived.Test.YtmlahbgogbjfpaaDoorHlp2
namespace Go.Proofs.YtmlahbgogbjfpaaDoor.Pure
open Go.RowKit Go.Proofs.YtmlahbgogbjfpaaDoor.PFnExactDecodeDescriptor Go.Proofs.YtmlahbgogbjfpaaDoorW.PrintWords Go.Proofs.YtmlahbgogbjfpaaDoorW.PrintLast Go.Proofs.YtmlahbgogbjfpaaDoorW.PrintMore Go.Proofs.YtmlahbgogbjfpaaDoor.Hlp
set_option linter.unusedVariables false
set_option linter.unusedSimpArgs false
namespace BK
theorem same (l : List Int) : spec_BlockKind.f l = impl_BlockKind.f l := by
  unfold spec_BlockKind.f impl_BlockKind.f spec_l3Begins.f spec_l3Magic.f spec_l2Same.f
  have hm : (strOfNums [106, 108, 111, 103]).toList = ([106, 108, 111, 103] : List UInt8) := by decide +kernel
  by_cases h4 : (l.length : Int) ≥ 4
  · have h4' : 4 ≤ (l.length : Int) := h4
    by_cases h64 : (l.length : Int) = 64
    · by_cases he : (strOfNums (l.take 4)).toList = ([106, 108, 111, 103] : List UInt8)
      · simp [h64, he, hm]
      · simp [h64, he, hm]
    · simp [h4, h64]
  · have h64 : ¬ (l.length : Int) = 64 := by omega
    simp [h4, h64]
theorem some_of (l : List Int) : ∃ r, impl_BlockKind.f l = some r := by
  unfold impl_BlockKind.f
  by_cases h64 : (l.length : Int) = 64
  · rw [if_pos h64, if_pos (by omega)]
    split
    · rw [if_pos (by omega)]
      split
      · exact ⟨_, rfl⟩
      · split <;> exact ⟨_, rfl⟩
    · exact ⟨_, rfl⟩
  · rw [if_neg h64]; exact ⟨_, rfl⟩
end BK
namespace GN
/-- The number that the bytes say, the first the greatest. -/
def val (l : List Int) : Int := l.foldl (fun v c => v * 256 + c) 0
theorem val_nil : val [] = 0 := rfl
theorem val_snoc (l : List Int) (c : Int) : val (l ++ [c]) = val l * 256 + c := by unfold val; rw [List.foldl_append]; rfl
theorem val_bd (l : List Int) (hb : ∀ x ∈ l, 0 ≤ x ∧ x ≤ 255) (n : Nat) : n ≤ l.length → 0 ≤ val (l.take n) ∧ val (l.take n) < 256 ^ n := by
  induction n with
  | zero => intro _; simp [val]
  | succ n ih =>
    intro h
    have := ih (by omega)
    rw [List.take_succ_eq_append_getElem (by omega), val_snoc, Int.pow_succ]
    have := hb l[n] (List.getElem_mem _)
    omega
theorem val_take_lt (l : List Int) (hb : ∀ x ∈ l, 0 ≤ x ∧ x ≤ 255) (h8 : l.length ≤ 8) (ht : l.length = 8 → rd l 0 ≤ 127) (n : Nat) (hn : n < l.length) : 0 ≤ val (l.take n) ∧ val (l.take n) < 2 ^ 55 ∧ 0 ≤ l[n] ∧ l[n] ≤ 255 := by
  have h := val_bd l hb n (by omega)
  have hc := hb l[n] (List.getElem_mem _)
  refine ⟨h.1, ?_, hc.1, hc.2⟩
  by_cases h7 : n = 7
  · subst h7
    have h1 := ht (by omega)
    match l, hn with
    | a :: b :: c :: d :: e :: f :: g :: r, _ =>
      have ha := hb a (by simp); have hb1 := hb b (by simp); have hc1 := hb c (by simp); have hd1 := hb d (by simp); have he := hb e (by simp); have hf := hb f (by simp); have hg := hb g (by simp)
      have h1' : a ≤ 127 := h1
      show val [a, b, c, d, e, f, g] < 2 ^ 55
      simp only [val, List.foldl]; omega
  · have h6 : n = 0 ∨ n = 1 ∨ n = 2 ∨ n = 3 ∨ n = 4 ∨ n = 5 ∨ n = 6 := by omega
    have h2 := h.2
    rcases h6 with e | e | e | e | e | e | e <;> rw [e] at h2 ⊢ <;> omega
theorem spec_loop (l : List Int) (hb : ∀ x ∈ l, 0 ≤ x ∧ x ≤ 255) (h8 : l.length ≤ 8) (ht : l.length = 8 → rd l 0 ≤ 127) (d : Nat) : ∀ n : Nat, n + d = l.length → Ev (fun k => spec_GetNumber.l0 k l (val (l.take n)) (n : Int)) (val l) := by
  induction d with
  | zero =>
    intro n hn
    have : l.take n = l := List.take_of_length_le (by omega)
    rw [this]
    exact Ev.step (f := fun _ => some (val l)) (fun k => by simp only [spec_GetNumber.l0]; rw [if_neg (by omega)]) (Ev.now _)
  | succ d ih =>
    intro n hn
    have hv := val_take_lt l hb h8 ht n (by omega)
    refine Ev.step (f := fun k => spec_GetNumber.l0 k l (val (l.take (n + 1))) ((n + 1 : Nat) : Int)) (fun k => ?_) (ih (n + 1) (by omega))
    simp only [spec_GetNumber.l0]
    rw [if_pos (by omega), if_pos (by omega), rd_nat l n (by omega), List.take_succ_eq_append_getElem (by omega), val_snoc]
    rw [w64 (x := val (l.take n) * 256) (by omega) (by omega), w64 (x := l[n]) (by omega) (by omega), w64 (by omega) (by omega), w64 (by omega) (by omega)]
    rfl
theorem impl_loop (l : List Int) (hb : ∀ x ∈ l, 0 ≤ x ∧ x ≤ 255) (h8 : l.length ≤ 8) (ht : l.length = 8 → rd l 0 ≤ 127) (d : Nat) : ∀ n : Nat, n + d = l.length → Ev (fun k => impl_GetNumber.l0 k (val (l.take n)) l (l.length : Int) (n : Int)) (val l) := by
  induction d with
  | zero =>
    intro n hn
    have : l.take n = l := List.take_of_length_le (by omega)
    rw [this]
    exact Ev.step (f := fun _ => some (val l)) (fun k => by simp only [impl_GetNumber.l0]; rw [if_neg (by omega)]) (Ev.now _)
  | succ d ih =>
    intro n hn
    have hv := val_take_lt l hb h8 ht n (by omega)
    refine Ev.step (f := fun k => impl_GetNumber.l0 k (val (l.take (n + 1))) l (l.length : Int) ((n + 1 : Nat) : Int)) (fun k => ?_) (ih (n + 1) (by omega))
    simp only [impl_GetNumber.l0]
    rw [if_pos (by omega), if_pos (by omega), if_pos (by omega), rd_nat l n (by omega), List.take_succ_eq_append_getElem (by omega), val_snoc]
    rw [w64 (x := val (l.take n) * 256) (by omega) (by omega), w64 (x := l[n]) (by omega) (by omega), i64_orb _ _ hv.1 hv.2.1 hv.2.2.1 (by omega), w64 (by omega) (by omega)]
    rfl
/-- What both say. -/
def numOf (l : List Int) : Int := if l.length = 0 ∨ l.length > 8 ∨ (l.length = 8 ∧ rd l 0 > 127) then -1 else val l
theorem spec_ev (l : List Int) (hb : ∀ x ∈ l, 0 ≤ x ∧ x ≤ 255) : Ev (fun k => spec_GetNumber.f k l) (numOf l) := by
  have hj : ∀ k b, spec_GetNumber.j0 (k + 1) l b = if b = true then (some (-1)) else (spec_GetNumber.l0 k l 0 0) := fun _ _ => rfl
  by_cases h : l.length = 0 ∨ l.length > 8 ∨ (l.length = 8 ∧ rd l 0 > 127)
  · have : numOf l = -1 := by unfold numOf; rw [if_pos h]
    rw [this]
    refine Ev.step (f := fun _ => some (-1)) (fun k => ?_) (Ev.now _)
    unfold spec_GetNumber.f
    rcases h with h | h | ⟨h, h2⟩
    · rw [if_pos (by omega), hj, if_pos rfl]
    · rw [if_neg (by omega), if_pos (by omega), hj, if_pos rfl]
    · rw [if_neg (by omega), if_neg (by omega), if_pos (by omega), if_pos (by omega), hj, if_pos (decide_eq_true h2)]
  · have : numOf l = val l := by unfold numOf; rw [if_neg h]
    rw [this]
    refine Ev.step (f := fun k => spec_GetNumber.l0 k l (val (l.take 0)) ((0 : Nat) : Int)) (fun k => ?_) (spec_loop l hb (by omega) (by omega) l.length 0 (by omega))
    unfold spec_GetNumber.f
    rw [if_neg (by omega), if_neg (by omega)]
    by_cases h8 : l.length = 8
    · rw [if_pos (by omega), if_pos (by omega), hj, if_neg (by simp; omega)]; rfl
    · rw [if_neg (by omega), hj, if_neg (by simp)]; rfl
theorem impl_ev (l : List Int) (hb : ∀ x ∈ l, 0 ≤ x ∧ x ≤ 255) : Ev (fun k => impl_GetNumber.f k l) (numOf l) := by
  have hj : ∀ k b, impl_GetNumber.j0 (k + 1) l b = if b = true then (some (-1)) else (impl_GetNumber.l0 k 0 l (l.length : Int) 0) := fun _ _ => rfl
  by_cases h : l.length = 0 ∨ l.length > 8 ∨ (l.length = 8 ∧ rd l 0 > 127)
  · have : numOf l = -1 := by unfold numOf; rw [if_pos h]
    rw [this]
    refine Ev.step (f := fun _ => some (-1)) (fun k => ?_) (Ev.now _)
    unfold impl_GetNumber.f
    rcases h with h | h | ⟨h, h2⟩
    · rw [if_pos (by omega), hj, if_pos rfl]
    · rw [if_neg (by omega), if_pos (by omega), hj, if_pos rfl]
    · rw [if_neg (by omega), if_neg (by omega), if_pos (by omega), if_pos (by omega), hj, if_pos (decide_eq_true (by omega))]
  · have : numOf l = val l := by unfold numOf; rw [if_neg h]
    rw [this]
    refine Ev.step (f := fun k => impl_GetNumber.l0 k (val (l.take 0)) l (l.length : Int) ((0 : Nat) : Int)) (fun k => ?_) (impl_loop l hb (by omega) (by omega) l.length 0 (by omega))
    unfold impl_GetNumber.f
    rw [if_neg (by omega), if_neg (by omega)]
    by_cases h8 : l.length = 8
    · rw [if_pos (by omega), if_pos (by omega), hj, if_neg (by simp; omega)]; rfl
    · rw [if_neg (by omega), hj, if_neg (by simp)]; rfl
end GN
namespace EP
/-- n bytes of v, the greatest first. -/
def be : Nat → Int → List Int
  | 0, _ => []
  | n + 1, v => be n (v / 256) ++ [v % 256]
theorem be_len : ∀ (n : Nat) (v : Int), (be n v).length = n
  | 0, _ => rfl
  | n + 1, v => by simp [be, be_len n]
/-- What both say. -/
def putOf (v n : Int) : List Int := if n < 1 ∨ n > 8 ∨ v < 0 ∨ v / 256 ^ n.toNat > 0 then [] else be n.toNat v
theorem putOf_len (v n : Int) : (putOf v n).length ≤ 8 := by
  unfold putOf; split
  · simp
  · rw [be_len]; omega
theorem div_pow (v : Int) (d : Nat) : v / 256 / 256 ^ d = v / 256 ^ (d + 1) := by
  rw [Int.ediv_ediv_of_nonneg (by omega), Int.pow_succ, Int.mul_comm]
theorem putSpec_loop (n : Int) (hn : n ≤ 8) (d : Nat) : ∀ (v : Int) (i : Nat) (out : List Int), 0 ≤ v → v ≤ 9223372036854775807 → (i : Int) + d = n → out.length = i →
    Ev (fun k => spec_PutNumber.l0 k v n out (i : Int)) (if v / 256 ^ d > 0 then [] else be d v ++ out) := by
  induction d with
  | zero =>
    intro v i out h0 h1 hi hl
    refine Ev.step (f := fun _ => some (if v / 256 ^ 0 > 0 then [] else be 0 v ++ out)) (fun k => ?_) (Ev.now _)
    simp only [spec_PutNumber.l0]
    rw [if_neg (by omega), show v / 256 ^ 0 = v by simp]
    by_cases h : v > 0
    · rw [if_pos h, if_pos h]
    · rw [if_neg h, if_neg h]; rfl
  | succ d ih =>
    intro v i out h0 h1 hi hl
    have h := ih (v / 256) (i + 1) ([v % 256] ++ out) (by omega) (by omega) (by omega) (by simp only [List.length_append, List.length_cons, List.length_nil]; omega)
    rw [div_pow] at h
    refine Ev.step (f := fun k => spec_PutNumber.l0 k (v / 256) n ([v % 256] ++ out) ((i + 1 : Nat) : Int)) (fun k => ?_) ?_
    · simp only [spec_PutNumber.l0, Option.bind_some]
      rw [if_pos (by omega), if_pos (by simp [hl]; omega), Int.tmod_eq_emod_of_nonneg h0, Int.tdiv_eq_ediv_of_nonneg h0, w64 (by omega) (by omega), w64 (by omega) (by omega), show v % 256 % 256 = v % 256 by omega]; rfl
    · rwa [show be (d + 1) v ++ out = be d (v / 256) ++ ([v % 256] ++ out) by simp [be]]
theorem putSpec_ev (v n : Int) (hv : v ≤ 9223372036854775807) : Ev (fun k => spec_PutNumber.f k v n) (putOf v n) := by
  have hj : ∀ k b, spec_PutNumber.j0 (k + 1) v n b = if b = true then (some (([] : List Int))) else (spec_PutNumber.l0 k v n (([] : List Int)) 0) := fun _ _ => rfl
  by_cases c1 : n < 1
  · have : putOf v n = [] := by unfold putOf; rw [if_pos (.inl c1)]
    rw [this]
    exact Ev.step (f := fun _ => some []) (fun k => by unfold spec_PutNumber.f; rw [if_pos c1, hj, if_pos rfl]) (Ev.now _)
  by_cases c2 : n > 8
  · have : putOf v n = [] := by unfold putOf; rw [if_pos (.inr (.inl c2))]
    rw [this]
    exact Ev.step (f := fun _ => some []) (fun k => by unfold spec_PutNumber.f; rw [if_neg c1, if_pos c2, hj, if_pos rfl]) (Ev.now _)
  by_cases c3 : v < 0
  · have : putOf v n = [] := by unfold putOf; rw [if_pos (.inr (.inr (.inl c3)))]
    rw [this]
    exact Ev.step (f := fun _ => some []) (fun k => by unfold spec_PutNumber.f; rw [if_neg c1, if_neg c2, hj, if_pos (decide_eq_true c3)]) (Ev.now _)
  have h := putSpec_loop n (by omega) n.toNat v 0 [] (by omega) hv (by omega) rfl
  have e : putOf v n = if v / 256 ^ n.toNat > 0 then [] else be n.toNat v ++ [] := by
    unfold putOf
    by_cases c : v / 256 ^ n.toNat > 0
    · rw [if_pos (.inr (.inr (.inr c))), if_pos c]
    · rw [if_neg (by omega), if_neg c]; simp
  rw [e]
  exact Ev.step (fun k => by unfold spec_PutNumber.f; rw [if_neg c1, if_neg c2, hj, if_neg (by simpa using c3)]) (show Ev (fun k => spec_PutNumber.l0 k v n [] 0) _ from h)
theorem be_get : ∀ (n : Nat) (v : Int) (i : Nat) (h : i < (be n v).length), (be n v)[i] = v / 256 ^ (n - 1 - i) % 256
  | 0, _, i, h => by simp [be] at h
  | n + 1, v, i, h => by
    have hl := be_len n (v / 256)
    by_cases hi : i < n
    · simp only [be]
      rw [List.getElem_append_left (by omega), be_get n (v / 256) i (by omega), div_pow, show n - 1 - i + 1 = n + 1 - 1 - i by omega]
    · have hi' : i = n := by simp [be, hl] at h; omega
      subst hi'
      simp only [be]
      rw [List.getElem_append_right (by omega)]
      simp [hl]
theorem pow8 (m : Nat) : (2 : Int) ^ (8 * m) = 256 ^ m := by rw [Int.pow_mul]; rfl
theorem shr8 (v : Int) (m : Nat) (hm : m ≤ 8) : shr .i64 v ((8 * m : Nat) : Int) = v / 256 ^ m := by
  unfold shr; rw [Int.toNat_natCast, Nat.min_eq_left (by simp only [IntKind.bits]; omega), pow8]
theorem putImpl_loop (v : Int) (n : Nat) (hn : n ≤ 8) : Ev (fun k => impl_PutNumber.l0 k v (n : Int) (List.replicate n 0) (n : Int) 0) (be n v) := by
  have h := fill_ev (L := fun k x i => impl_PutNumber.l0 k v (n : Int) x (n : Int) i) (List.range n) (fun i => v / 256 ^ (n - 1 - i) % 256)
    (fun i x h hx r hr => by
      simp only [List.length_range] at h hx
      refine Ev.step (fun k => ?_) hr
      simp only [impl_PutNumber.l0]
      have e : wrap64 (8 * (wrap64 ((wrap64 ((n : Int) - 1)) - i))) = ((8 * (n - 1 - i) : Nat) : Int) := by
        rw [w64 (x := (n : Int) - 1) (by omega) (by omega), w64 (x := (n : Int) - 1 - i) (by omega) (by omega), w64 (by omega) (by omega)]; omega
      rw [if_pos (by omega), e, if_pos (by omega), if_pos (by omega), if_pos (by omega), shr8 _ _ (by omega), w64 (by omega) (by omega)]
      simp)
    (fun x hx => by
      simp only [List.length_range] at hx ⊢
      exact Ev.step (f := fun _ => some x) (fun k => by simp only [impl_PutNumber.l0]; rw [if_neg (by omega)]) (Ev.now _))
    (List.replicate n 0) (by simp)
  have e : (List.range n).map (fun i => v / 256 ^ (n - 1 - i) % 256) = be n v := by
    apply List.ext_getElem
    · simp [be_len]
    · intro i h1 h2
      rw [be_get]; simp
  rwa [e] at h
theorem lt256 (v : Int) (h0 : 0 ≤ v) (h1 : v ≤ 9223372036854775807) : v / 256 ^ 8 = 0 := by
  have : (256 : Int) ^ 8 = 18446744073709551616 := by decide
  rw [this]; omega
theorem putImpl_ev (v n : Int) (hv : v ≤ 9223372036854775807) : Ev (fun k => impl_PutNumber.f k v n) (putOf v n) := by
  have hj : ∀ k b, impl_PutNumber.j0 (k + 1) v n b = if b = true then (some ([] : List Int)) else (if 0 ≤ n then (if (n : Int).toNat ≤ 281474976710656 then ((some (List.replicate (n : Int).toNat 0 : List Int)).bind fun y116 => (impl_PutNumber.l0 k v n y116 (y116.length : Int) 0)) else (none)) else (none)) := fun _ _ => rfl
  by_cases c1 : n < 1
  · have : putOf v n = [] := by unfold putOf; rw [if_pos (.inl c1)]
    rw [this]
    exact Ev.step (f := fun _ => some []) (fun k => by unfold impl_PutNumber.f; rw [if_pos c1, hj, if_pos rfl]) (Ev.now _)
  by_cases c2 : n > 8
  · have : putOf v n = [] := by unfold putOf; rw [if_pos (.inr (.inl c2))]
    rw [this]
    exact Ev.step (f := fun _ => some []) (fun k => by unfold impl_PutNumber.f; rw [if_neg c1, if_pos c2, hj, if_pos rfl]) (Ev.now _)
  by_cases c3 : v < 0
  · have : putOf v n = [] := by unfold putOf; rw [if_pos (.inr (.inr (.inl c3)))]
    rw [this]
    exact Ev.step (f := fun _ => some []) (fun k => by unfold impl_PutNumber.f; rw [if_neg c1, if_neg c2, if_pos c3, hj, if_pos rfl]) (Ev.now _)
  obtain ⟨m, rfl⟩ := Int.eq_ofNat_of_zero_le (show 0 ≤ n by omega)
  have hloop : ∀ b, b = false → Ev (fun k => impl_PutNumber.j0 k v (m : Int) b) (be m v) := fun b hb => by
    refine Ev.step (f := fun k => impl_PutNumber.l0 k v (m : Int) (List.replicate m 0) (m : Int) 0) (fun k => ?_) (putImpl_loop v m (by omega))
    rw [hj, if_neg (by simp [hb]), if_pos (by omega), if_pos (by simp; omega)]; simp
  by_cases c4 : (m : Int) < 8
  · have e8 : wrap64 (8 * (m : Int)) = ((8 * m : Nat) : Int) := by rw [w64 (by omega) (by omega)]; omega
    have hd : 0 ≤ v / 256 ^ m := Int.ediv_nonneg (by omega) (Int.le_of_lt (Int.pow_pos (by decide)))
    by_cases c5 : v / 256 ^ m > 0
    · have : putOf v m = [] := by unfold putOf; rw [if_pos (.inr (.inr (.inr (by simpa using c5))))]
      rw [this]
      exact Ev.step (f := fun _ => some []) (fun k => by unfold impl_PutNumber.f; rw [if_neg c1, if_neg c2, if_neg c3, if_pos c4, e8, if_pos (by omega), shr8 _ _ (by omega), hj, if_pos (by simp; omega)]) (Ev.now _)
    · have : putOf v m = be m v := by unfold putOf; rw [if_neg (by simp; omega)]; simp
      rw [this]
      exact Ev.congr (fun k => by unfold impl_PutNumber.f; rw [if_neg c1, if_neg c2, if_neg c3, if_pos c4, e8, if_pos (by omega), shr8 _ _ (by omega)]) (hloop _ (by simp; omega))
  · have hm8 : m = 8 := by omega
    have : putOf v m = be m v := by
      unfold putOf; rw [if_neg (by subst hm8; have := lt256 v (by omega) hv; simp only [Int.toNat_natCast]; omega)]; simp
    rw [this]
    exact Ev.congr (fun k => by unfold impl_PutNumber.f; rw [if_neg c1, if_neg c2, if_neg c3, if_neg c4]) (hloop _ rfl)
theorem put_ev (b : List Int) (p : Nat) (v n : Int) (hv : v ≤ 9223372036854775807) (hp : p ≤ b.length) : Ev (fun k => impl_put.f k b (p : Int) v n) (splice b p ((putOf v n).take (b.length - p))) := by
  unfold impl_put.f
  refine (putImpl_ev v n hv).bind ?_
  exact Ev.congr (fun k => by rw [if_pos (by omega), if_pos (by omega), Int.toNat_natCast]) (Ev.now _)
theorem put_two (v : Int) (h0 : 0 ≤ v) (h1 : v < 65536) : putOf v 2 = be 2 v := by
  unfold putOf; rw [if_neg (by simp; omega)]; rfl
theorem splice_at (a z x : List Int) (h : x.length ≤ z.length) : splice (a ++ z) a.length (x.take ((a ++ z).length - a.length)) = (a ++ x) ++ z.drop x.length := by
  have e : x.take ((a ++ z).length - a.length) = x := List.take_of_length_le (by rw [List.length_append]; omega)
  rw [e]; unfold splice
  rw [List.take_left, List.drop_append]
  simp
/-- A number of two bytes, put behind what stands, ahead of zeros. -/
theorem put2_ev (a : List Int) (m : Nat) (p : Int) (v : Int) (h0 : 0 ≤ v) (h1 : v < 65536) (hp : p = (a.length : Int)) : Ev (fun k => impl_put.f k (a ++ List.replicate (m + 2) 0) p v 2) ((a ++ be 2 v) ++ List.replicate m 0) := by
  have h := put_ev (a ++ List.replicate (m + 2) 0) a.length v 2 (by omega) (by simp)
  rw [put_two v h0 h1, splice_at a _ _ (by rw [be_len]; simp), be_len] at h
  have e : (List.replicate (m + 2) (0 : Int)).drop 2 = List.replicate m 0 := by simp
  rw [e] at h
  rw [hp]; exact h
theorem put_four (v : Int) (h0 : 0 ≤ v) (h1 : v < 4294967296) : putOf v 4 = be 4 v := by
  have e : (256 : Int) ^ (4 : Int).toNat = 4294967296 := by decide
  unfold putOf; rw [e, if_neg (by omega)]; rfl
/-- A number of n bytes, put behind what stands, ahead of zeros. -/
theorem putn_ev (a : List Int) (m n : Nat) (p : Int) (v : Int) (hb : putOf v (n : Int) = be n v) (h1 : v ≤ 9223372036854775807) (hp : p = (a.length : Int)) : Ev (fun k => impl_put.f k (a ++ List.replicate (m + n) 0) p v (n : Int)) ((a ++ be n v) ++ List.replicate m 0) := by
  have h := put_ev (a ++ List.replicate (m + n) 0) a.length v (n : Int) h1 (by simp)
  rw [hb, splice_at a _ _ (by rw [be_len]; simp), be_len] at h
  have e : (List.replicate (m + n) (0 : Int)).drop n = List.replicate m 0 := by simp
  rw [e] at h
  rw [hp]; exact h
/-- The header's twelve bytes. -/
def headOf (kind count seq : Int) : List Int := ([106, 108, 111, 103, kind % 256, 0] ++ be 2 count) ++ be 4 seq
theorem headOf_len (kind count seq : Int) : (headOf kind count seq).length = 12 := by
  simp [headOf, be_len]
theorem headSpec (kind count seq : Int) (c0 : 0 ≤ count) (c1 : count < 65536) (s0 : 0 ≤ seq) (s1 : seq < 4294967296) : Ev (fun k => spec_l3Head.f k kind count seq) (headOf kind count seq) := by
  have h2 := putSpec_ev count 2 (by omega)
  have h4 := putSpec_ev seq 4 (by omega)
  rw [put_two count c0 c1] at h2
  rw [put_four seq s0 s1] at h4
  refine Ev.congr (f := fun k => (spec_PutNumber.f k count 2).bind fun t153 => (if ([106, 108, 111, 103, kind % 256, 0] : List Int).length + t153.length < 140737488355328 then ((some (([106, 108, 111, 103, kind % 256, 0] : List Int) ++ t153 : List Int)).bind fun y156 => ((spec_PutNumber.f k seq 4).bind fun t159 => (if y156.length + t159.length < 140737488355328 then (some (y156 ++ t159)) else (none)))) else (none))) (fun k => ?_) ?_
  · unfold spec_l3Head.f spec_l3Magic.f; rfl
  · refine h2.bind ?_
    refine Ev.congr (fun k => by rw [if_pos (by rw [be_len]; simp), Option.bind_some]) ?_
    refine h4.bind ?_
    exact Ev.congr (fun k => if_pos (by rw [be_len, List.length_append, be_len]; simp)) (Ev.now _)
theorem headImpl (kind count seq : Int) (c0 : 0 ≤ count) (c1 : count < 65536) (s0 : 0 ≤ seq) (s1 : seq < 4294967296) : Ev (fun k => impl_head.f k kind count seq) (headOf kind count seq ++ List.replicate 52 0) := by
  have h2 := putn_ev [106, 108, 111, 103, kind % 256, 0] 56 2 6 count (put_two count c0 c1) (by omega) rfl
  have h4 := putn_ev ([106, 108, 111, 103, kind % 256, 0] ++ be 2 count) 52 4 8 seq (put_four seq s0 s1) (by omega) (by rw [List.length_append, be_len]; rfl)
  unfold impl_head.f
  exact (show Ev (fun k => impl_put.f k ((splice (List.replicate 64 0) 0 [106, 108, 111, 103]).set 4 (kind % 256)) 6 count 2) _ from h2).bind h4
theorem join_some (a b : List Int) (h : a.length + b.length < 140737488355328) : spec_l2Join.f a b = some (a ++ b) := by
  unfold spec_l2Join.f spec_l1Copy.f
  rw [Option.bind_some, if_pos (by simp; omega), Option.bind_some, if_pos (by simpa using h)]; rfl
theorem pad_some (a : List Int) (h : a.length ≤ 64) : spec_l3Pad.f a = some (a ++ List.replicate (64 - a.length) 0) := by
  unfold spec_l3Pad.f spec_l2Zero.f
  have e : wrap64 (64 - (a.length : Int)) = ((64 - a.length : Nat) : Int) := by rw [w64 (by omega) (by omega)]; omega
  rw [e, if_pos (by omega), if_pos (by omega), Option.bind_some, Int.toNat_natCast, join_some _ _ (by simp; omega)]; rfl
theorem in_tell (a lo hi : Int) : impl_in.f a lo hi = some (decide (lo ≤ a ∧ a ≤ hi)) := by
  unfold impl_in.f
  by_cases c : a ≥ lo
  · rw [if_pos c]; congr 1; simp; omega
  · rw [if_neg c]; simp; omega
/-- Place j is good: a block's number, greater than the one ahead. -/
def okR (v : List Int) (j : Nat) : Prop := 0 ≤ rd v (j : Int) ∧ rd v (j : Int) < 2048 ∧ (0 < j → rd v ((j : Int) - 1) < rd v (j : Int))
theorem good_tell (b : Int) : spec_l3GoodBlock.f b = some (decide (0 ≤ b ∧ b < 2048)) := by
  unfold spec_l3GoodBlock.f
  by_cases c : b ≥ 0
  · rw [if_pos c]; congr 1; simp; omega
  · rw [if_neg c]; simp; omega
theorem put2s (v : Int) (h0 : 0 ≤ v) (h1 : v < 65536) : Ev (fun k => spec_PutNumber.f k v 2) (be 2 v) := by
  have := putSpec_ev v 2 (by omega)
  rwa [put_two v h0 h1] at this
theorem rd86 (l : List S67) (i : Nat) (h : i < l.length) : rd_T67 l (i : Int) = l[i] := by simp [rd_T67, h]
theorem eqTS (l : List S67) (hl : l.length ≤ 281474976710656) : Ev (fun k => laws_eqTagS.f k l l) true := by
  refine Ev.congr (f := fun k => laws_eqTagS.l0 k l l 0) (fun k => by unfold laws_eqTagS.f; rw [if_pos rfl]) ?_
  refine eqG_ev (L := laws_eqTagS.l0) l ?_ ?_
  · intro i hi h
    refine Ev.step (fun k => ?_) h
    simp only [laws_eqTagS.l0, laws_eqTag.f]
    rw [if_pos (by omega), if_pos (by omega), if_pos (by omega), w64 (by omega) (by omega)]
    simp
  · exact Ev.step (f := fun _ => some true) (fun k => by simp only [laws_eqTagS.l0]; rw [if_neg (by omega)]) (Ev.now _)
def mkT (_ : S67) (s : Int) : S67 := ⟨s, ((Int.tmod (s + 1) 3) == 0)⟩
theorem markTS (l : List S67) (s : Int) (h0 : 0 ≤ s) (hl : l.length ≤ 1048576) (hb : s + (2 * l.length : Nat) ≤ 4194304) : Ev (fun k => laws_markTagS.f k l s) (s + (2 * l.length : Nat), marksG mkT 2 s l) := by
  refine markG_ev mkT 2 (L := laws_markTagS.l0) 4194304 ?_ ?_ l s h0 (by omega) hb
  · intro i x s hi hx h0 hs r h
    have hw : wrap64 ((i : Int) + 1) = ((i + 1 : Nat) : Int) := by rw [w64 (by omega) (by omega)]; rfl
    have hs2 : wrap64 (s + 1) = s + 1 := w64 (by omega) (by omega)
    have hs3 : wrap64 (s + 1 + 1) = s + ((2 : Nat) : Int) := by rw [w64 (by omega) (by omega)]; omega
    refine Ev.step (f := fun k => laws_markTagS.l0 k (x.set i (mkT x[i] s)) (s + ((2 : Nat) : Int)) ((i + 1 : Nat) : Int)) (fun k => ?_) h
    simp only [laws_markTagS.l0, Option.bind_some]
    rw [if_pos (by omega), if_pos (by omega), hw, hs2, hs3, Int.toNat_natCast, List.set_set, rd86 _ i (by simpa using hi), List.getElem_set]
    simp [mkT]
  · intro x s
    exact Ev.step (f := fun _ => some (s, x)) (fun k => by simp only [laws_markTagS.l0]; rw [if_neg (by omega)]) (Ev.now _)
/-- The tags' bytes. -/
def flat : List S67 → List Int
  | [] => []
  | x :: r => (be 2 x.f0 ++ [if x.f1 = true then 1 else 0]) ++ flat r
theorem flat_len : ∀ l : List S67, (flat l).length = 3 * l.length
  | [] => rfl
  | x :: r => by simp [flat, be_len, flat_len r]; omega
theorem drop_cons (v : List S67) (i : Nat) (h : i < v.length) : v.drop i = rd_T67 v (i : Int) :: v.drop (i + 1) := by
  rw [List.drop_eq_getElem_cons h, rd86 v i h]
def blk (v : List S67) : List Int := v.map S67.f0
theorem rd_blk (v : List S67) (i : Nat) (h : i < v.length) : rd (blk v) (i : Int) = (rd_T67 v (i : Int)).f0 := by
  rw [rd_nat _ i (by simpa [blk] using h), rd86 v i h]; simp [blk]
theorem rd_blk1 (v : List S67) (i : Nat) (h : i < v.length) (h0 : 0 < i) : rd (blk v) ((i : Int) - 1) = (rd_T67 v ((i : Int) - 1)).f0 := by
  have e : (i : Int) - 1 = ((i - 1 : Nat) : Int) := by omega
  rw [e, rd_blk v (i - 1) (by omega)]
theorem blk_len (v : List S67) : (blk v).length = v.length := by simp [blk]
theorem rise (s : Int) (v : List S67) (hv : v.length ≤ 17) : ∃ b : Bool, Ev (fun k => impl_rising.l0 k (blk v) (blk v) (v.length : Int) ((0 : Nat) : Int)) b ∧ (b = true → ∀ j, 0 ≤ j → j < v.length → okR (blk v) j) ∧
    ∀ acc : List Int, acc.length = 12 + 3 * 0 → Ev (fun k => spec_EncodeDescriptor.l0 k (v.length : Int) acc ((0 : Nat) : Int) s v) (if b = true then acc ++ flat (v.drop 0) ++ List.replicate (52 - 3 * v.length) 0 else []) := by
  have hbl := blk_len v
  refine down (P := fun i => ∃ b : Bool, Ev (fun k => impl_rising.l0 k (blk v) (blk v) (v.length : Int) (i : Int)) b ∧ (b = true → ∀ j, i ≤ j → j < v.length → okR (blk v) j) ∧
    ∀ acc : List Int, acc.length = 12 + 3 * i → Ev (fun k => spec_EncodeDescriptor.l0 k (v.length : Int) acc (i : Int) s v) (if b = true then acc ++ flat (v.drop i) ++ List.replicate (52 - 3 * v.length) 0 else [])) v.length ?_ ?_
  · refine ⟨true, Ev.step (f := fun _ => some true) (fun k => by simp only [impl_rising.l0]; rw [if_neg (by omega)]) (Ev.now _), fun _ j h1 h2 => by omega, fun acc ha => ?_⟩
    refine Ev.step (f := fun _ => some (acc ++ flat (v.drop v.length) ++ List.replicate (52 - 3 * v.length) 0)) (fun k => ?_) (Ev.now _)
    simp only [spec_EncodeDescriptor.l0]
    rw [if_neg (by omega), pad_some acc (by omega), Option.bind_some, List.drop_length, ha]
    simp only [flat, List.append_nil]
    congr 3; omega
  · intro i hi ⟨b, h1, h2, h3⟩
    have hw : wrap64 ((i : Int) + 1) = ((i + 1 : Nat) : Int) := by rw [w64 (by omega) (by omega)]; rfl
    have hw1 : wrap64 ((i : Int) - 1) = (i : Int) - 1 := w64 (by omega) (by omega)
    have hrb := rd_blk v i hi
    have j2 : ∀ k acc b, spec_EncodeDescriptor.j2 (k + 1) (v.length : Int) acc (i : Int) b s v = if b = true then (some (([] : List Int))) else (if 0 ≤ (i : Int) then (if (i : Int) < (v.length : Int) then ((spec_PutNumber.f k ((rd_T67 v (i : Int)).f0) 2).bind fun t186 => (if acc.length + t186.length < 140737488355328 then ((some (acc ++ t186 : List Int)).bind fun y189 => (if (rd_T67 v (i : Int)).f1 = true then (if y189.length < 140737488355328 then (spec_EncodeDescriptor.l0 k (v.length : Int) (y189 ++ [1]) (wrap64 ((i : Int) + 1)) s v) else (none)) else (if y189.length < 140737488355328 then (spec_EncodeDescriptor.l0 k (v.length : Int) (y189 ++ [0]) (wrap64 ((i : Int) + 1)) s v) else (none)))) else (none))) else (none)) else (none)) := fun _ _ _ => rfl
    by_cases g : okR (blk v) i
    · obtain ⟨g1, g2, g3⟩ := g
      refine ⟨b, ?_, fun hb j hj hl => ?_, fun acc ha => ?_⟩
      · refine Ev.step (fun k => ?_) h1
        simp only [impl_rising.l0]
        rw [if_pos (by omega), if_pos (by omega), if_pos (by omega), in_tell, Option.bind_some, if_pos (by simp; omega), hw, hw1]
        by_cases z : (i : Int) > 0
        · rw [if_pos z, if_pos (by omega), if_pos (by omega), if_neg (by have := g3 (by omega); omega)]
        · rw [if_neg z]
      · rcases Nat.lt_or_eq_of_le hj with h | h
        · exact h2 hb j h hl
        · subst h; exact ⟨g1, g2, g3⟩
      · have h4 := h3 ((acc ++ be 2 (rd_T67 v (i : Int)).f0) ++ [if (rd_T67 v (i : Int)).f1 = true then 1 else 0]) (by rw [List.length_append, List.length_append, be_len]; simp; omega)
        have e : (if b = true then acc ++ flat (v.drop i) ++ List.replicate (52 - 3 * v.length) 0 else []) = (if b = true then ((acc ++ be 2 (rd_T67 v (i : Int)).f0) ++ [if (rd_T67 v (i : Int)).f1 = true then 1 else 0]) ++ flat (v.drop (i + 1)) ++ List.replicate (52 - 3 * v.length) 0 else []) := by
          rw [drop_cons v i hi]; simp [flat]
        rw [e]
        rw [hrb] at g1 g2 g3
        refine Ev.step (f := fun k => spec_EncodeDescriptor.j2 k (v.length : Int) acc (i : Int) false s v) (fun k => ?_) ?_
        · simp only [spec_EncodeDescriptor.l0]
          rw [if_pos (by omega), if_pos (by omega), if_pos (by omega), good_tell, Option.bind_some, if_pos (by simp; omega), hw1]
          by_cases z : (i : Int) > 0
          · have := rd_blk1 v i hi (by omega)
            rw [if_pos z, if_pos (by omega), if_pos (by omega), decide_eq_false (by have := g3 (by omega); omega)]
          · rw [if_neg z]
        · refine Ev.step (fun k => by rw [j2, if_neg (by simp), if_pos (by omega), if_pos (by omega)]) ?_
          refine (put2s _ g1 (by omega)).bind ?_
          refine Ev.congr (fun k => ?_) h4
          rw [if_pos (by rw [be_len]; omega), Option.bind_some, hw]
          by_cases c : (rd_T67 v (i : Int)).f1 = true
          · rw [if_pos c, if_pos c, if_pos (by rw [List.length_append, be_len]; omega)]
          · rw [if_neg c, if_neg c, if_pos (by rw [List.length_append, be_len]; omega)]
    · refine ⟨false, ?_, fun hb => by (cases hb), fun acc ha => ?_⟩
      · refine Ev.step (f := fun _ => some false) (fun k => ?_) (Ev.now _)
        simp only [impl_rising.l0]
        rw [if_pos (by omega), if_pos (by omega), if_pos (by omega), in_tell, Option.bind_some]
        by_cases c : 0 ≤ rd (blk v) (i : Int) ∧ rd (blk v) (i : Int) < 2048
        · have hz : 0 < i ∧ ¬ rd (blk v) ((i : Int) - 1) < rd (blk v) (i : Int) := by
            unfold okR at g
            by_cases z : 0 < i
            · exact ⟨z, fun h => g ⟨c.1, c.2, fun _ => h⟩⟩
            · exact absurd ⟨c.1, c.2, fun h => absurd h z⟩ g
          rw [if_pos (by simp; omega), hw1, if_pos (by omega), if_pos (by omega), if_pos (by omega), if_pos (by omega)]
        · rw [if_neg (by simp; omega)]
      · refine Ev.step (f := fun k => spec_EncodeDescriptor.j2 k (v.length : Int) acc (i : Int) true s v) (fun k => ?_) ?_
        · simp only [spec_EncodeDescriptor.l0]
          rw [if_pos (by omega), if_pos (by omega), if_pos (by omega), good_tell, Option.bind_some]
          by_cases c : 0 ≤ rd (blk v) (i : Int) ∧ rd (blk v) (i : Int) < 2048
          · have hz : 0 < i ∧ ¬ rd (blk v) ((i : Int) - 1) < rd (blk v) (i : Int) := by
              unfold okR at g
              by_cases z : 0 < i
              · exact ⟨z, fun h => g ⟨c.1, c.2, fun _ => h⟩⟩
              · exact absurd ⟨c.1, c.2, fun h => absurd h z⟩ g
            have h5 := rd_blk1 v i hi hz.1
            rw [if_pos (by simp; omega), hw1, if_pos (by omega), if_pos (by omega), if_pos (by omega), decide_eq_true (by omega)]
          · rw [if_neg (by simp; omega)]
        · refine Ev.step (f := fun _ => some []) (fun k => by rw [j2, if_pos rfl]) ?_
          simpa using Ev.now _
theorem set_at (a : List Int) (x : Int) (m : Nat) (y : Int) : (a ++ x :: List.replicate m 0).set a.length y = (a ++ [y]) ++ List.replicate m 0 := by
  simp
theorem laid (v : List S67) (hv : v.length ≤ 17) (ok : ∀ j, j < v.length → okR (blk v) j) (z : Nat) (d : Nat) : ∀ (i : Nat) (a : List Int), i + d = v.length → a.length = 12 + 3 * i →
    Ev (fun k => impl_EncodeDescriptor.l1 k (a ++ List.replicate (z + 3 * d) 0) v (v.length : Int) (i : Int)) (a ++ flat (v.drop i) ++ List.replicate z 0) := by
  induction d with
  | zero =>
    intro i a hi ha
    refine Ev.step (f := fun _ => some (a ++ List.replicate z 0)) (fun k => by simp only [impl_EncodeDescriptor.l1]; rw [if_neg (by omega)]; simp) ?_
    rw [List.drop_eq_nil_of_le (by omega)]; simp only [flat, List.append_nil]; exact Ev.now _
  | succ d ih =>
    intro i a hi ha
    obtain ⟨g1, g2, _⟩ := ok i (by omega)
    rw [rd_blk v i (by omega)] at g1 g2
    have hw : wrap64 ((i : Int) + 1) = ((i + 1 : Nat) : Int) := by rw [w64 (by omega) (by omega)]; rfl
    have hw3 : wrap64 (14 + (wrap64 (3 * (i : Int)))) = ((14 + 3 * i : Nat) : Int) := by rw [w64 (x := 3 * (i : Int)) (by omega) (by omega), w64 (by omega) (by omega)]; omega
    have h := ih (i + 1) ((a ++ be 2 (rd_T67 v (i : Int)).f0) ++ [if (rd_T67 v (i : Int)).f1 = true then 1 else 0]) (by omega) (by rw [List.length_append, List.length_append, be_len]; simp; omega)
    have e : a ++ flat (v.drop i) ++ List.replicate z 0 = ((a ++ be 2 (rd_T67 v (i : Int)).f0) ++ [if (rd_T67 v (i : Int)).f1 = true then 1 else 0]) ++ flat (v.drop (i + 1)) ++ List.replicate z 0 := by
      rw [drop_cons v i (by omega)]; simp [flat]
    rw [e]
    have hp := putn_ev a (z + 3 * d + 1) 2 (wrap64 (12 + (wrap64 (3 * (i : Int))))) (rd_T67 v (i : Int)).f0 (put_two _ g1 (by omega)) (by omega) (by rw [w64 (x := 3 * (i : Int)) (by omega) (by omega), w64 (by omega) (by omega)]; omega)
    rw [show z + 3 * (d + 1) = z + 3 * d + 1 + 2 by omega]
    have hrep : List.replicate (z + 3 * d + 1) (0 : Int) = 0 :: List.replicate (z + 3 * d) 0 := rfl
    refine Ev.step (f := fun k => (impl_put.f k (a ++ List.replicate (z + 3 * d + 1 + 2) 0) (wrap64 (12 + (wrap64 (3 * (i : Int))))) (rd_T67 v (i : Int)).f0 2).bind fun t => if (rd_T67 v (i : Int)).f1 = true then impl_EncodeDescriptor.l1 k (t.set (14 + 3 * i) 1) v (v.length : Int) ((i + 1 : Nat) : Int) else impl_EncodeDescriptor.l1 k t v (v.length : Int) ((i + 1 : Nat) : Int)) (fun k => ?_) ?_
    · simp only [impl_EncodeDescriptor.l1]
      rw [if_pos (by omega), if_pos (by omega), if_pos (by omega), hw, hw3]
      congr 1; funext t
      by_cases c : (rd_T67 v (i : Int)).f1 = true
      · rw [if_pos c, if_pos c, if_pos (by omega), if_pos (by rw [List.length_append, List.length_replicate]; omega), Int.toNat_natCast]
      · rw [if_neg c, if_neg c]
    · refine (show Ev (fun k => impl_put.f k (a ++ List.replicate (z + 3 * d + 1 + 2) 0) _ _ 2) _ from hp).bind ?_
      by_cases c : (rd_T67 v (i : Int)).f1 = true
      · rw [if_pos c] at h ⊢
        refine Ev.congr (fun k => ?_) h
        rw [if_pos c, hrep, show 14 + 3 * i = (a ++ be 2 (rd_T67 v (i : Int)).f0).length by rw [List.length_append, be_len]; omega, set_at]
      · rw [if_neg c] at h ⊢
        refine Ev.congr (fun k => ?_) h
        rw [if_neg c, hrep]; simp
/-- The list of the numbers, and what is asked of it. -/
theorem gather (s : Int) (v : List S67) (hv : v.length ≤ 1048576) (r : List Int)
    (fin : Ev (fun k => (impl_in.f s 1 4294967295).bind fun t228 => (if t228 = true then ((impl_in.f ((blk v).length : Int) 1 17).bind fun t229 => (if t229 = true then ((impl_rising.f k (blk v)).bind fun t230 => (impl_EncodeDescriptor.j1 k (blk v) (!t230) s v)) else (impl_EncodeDescriptor.j1 k (blk v) true s v))) else (impl_EncodeDescriptor.j1 k (blk v) true s v))) r) (d : Nat) :
    ∀ i : Nat, i + d = v.length → Ev (fun k => impl_EncodeDescriptor.l0 k (blk (v.take i)) v (v.length : Int) (i : Int) s v) r := by
  induction d with
  | zero =>
    intro i hi
    have e : v.take i = v := List.take_of_length_le (by omega)
    rw [e]
    refine Ev.step (fun k => ?_) fin
    simp only [impl_EncodeDescriptor.l0]
    rw [if_neg (by omega)]
  | succ d ih =>
    intro i hi
    have hw : wrap64 ((i : Int) + 1) = ((i + 1 : Nat) : Int) := by rw [w64 (by omega) (by omega)]; rfl
    refine Ev.step (fun k => ?_) (ih (i + 1) (by omega))
    simp only [impl_EncodeDescriptor.l0]
    have e : blk (v.take (i + 1)) = blk (v.take i) ++ [(rd_T67 v (i : Int)).f0] := by
      rw [List.take_succ_eq_append_getElem (by omega), rd86 v i (by omega)]; simp only [blk, List.map_append, List.map_cons, List.map_nil]
    rw [if_pos (by omega), if_pos (by omega), if_pos (by omega), if_pos (by rw [blk_len, List.length_take]; omega), hw, e]
theorem both (s : Int) (v : List S67) (hv : v.length ≤ 1048576) : ∃ r, Ev (fun k => spec_EncodeDescriptor.f k s v) r ∧ Ev (fun k => impl_EncodeDescriptor.f k s v) r ∧ r.length ≤ 64 := by
  have sj : ∀ k b, spec_EncodeDescriptor.j0 (k + 1) (v.length : Int) b s v = if b = true then (some (([] : List Int))) else ((spec_l3Head.f k 2 (v.length : Int) s).bind fun t172 => (spec_EncodeDescriptor.l0 k (v.length : Int) t172 0 s v)) := fun _ _ => rfl
  have ij : ∀ k b, impl_EncodeDescriptor.j1 (k + 1) (blk v) b s v = if b = true then (some ([] : List Int)) else ((impl_head.f k 2 ((blk v).length : Int) s).bind fun t231 => (impl_EncodeDescriptor.l1 k t231 v (v.length : Int) 0)) := fun _ _ => rfl
  have st : Ev (fun k => spec_EncodeDescriptor.j0 k (v.length : Int) true s v) [] := Ev.step (f := fun _ => some []) (fun k => by rw [sj, if_pos rfl]) (Ev.now _)
  have it : Ev (fun k => impl_EncodeDescriptor.j1 k (blk v) true s v) [] := Ev.step (f := fun _ => some []) (fun k => by rw [ij, if_pos rfl]) (Ev.now _)
  have hbl := blk_len v
  have go : ∀ r, _ → Ev (fun k => impl_EncodeDescriptor.f k s v) r := fun r fin => (show Ev (fun k => impl_EncodeDescriptor.f k s v) r from gather s v hv r fin v.length 0 (by omega))
  by_cases g : (1 ≤ s ∧ s ≤ 4294967295) ∧ (1 ≤ v.length ∧ v.length ≤ 17)
  · obtain ⟨⟨a1, a2⟩, b1, b2⟩ := g
    obtain ⟨b, hr, hok, hsp⟩ := rise s v b2
    have hs := headSpec 2 (v.length : Int) s (by omega) (by omega) (by omega) (by omega)
    have hi := headImpl 2 (v.length : Int) s (by omega) (by omega) (by omega) (by omega)
    have sp : Ev (fun k => spec_EncodeDescriptor.f k s v) (if b = true then headOf 2 (v.length : Int) s ++ flat (v.drop 0) ++ List.replicate (52 - 3 * v.length) 0 else []) := by
      refine Ev.congr (f := fun k => spec_EncodeDescriptor.j0 k (v.length : Int) false s v) (fun k => ?_) ?_
      · unfold spec_EncodeDescriptor.f spec_l3GoodSeq.f
        rw [if_pos (by omega), Option.bind_some, if_pos (by simp; omega), if_neg (by omega), decide_eq_false (by omega)]
      · refine Ev.step (fun k => by rw [sj, if_neg (by simp)]) ?_
        exact hs.bind (hsp _ (headOf_len _ _ _))
    refine ⟨_, sp, go _ ?_, ?_⟩
    · refine Ev.congr (f := fun k => (impl_rising.l0 k (blk v) (blk v) (v.length : Int) 0).bind fun t => impl_EncodeDescriptor.j1 k (blk v) (!t) s v) (fun k => ?_) ?_
      · unfold impl_rising.f
        rw [in_tell, in_tell, Option.bind_some, if_pos (by simp; omega), Option.bind_some, if_pos (by simp; omega), hbl]
      · refine (show Ev (fun k => impl_rising.l0 k (blk v) (blk v) (v.length : Int) 0) b from hr).bind ?_
        cases b with
        | false => simpa using it
        | true =>
          refine Ev.step (fun k => by rw [ij, if_neg (by simp), hbl]) ?_
          refine hi.bind ?_
          have hl := laid v b2 (fun j hj => hok rfl j (Nat.zero_le _) hj) (52 - 3 * v.length) v.length 0 (headOf 2 (v.length : Int) s) (by omega) (headOf_len _ _ _)
          rw [show 52 - 3 * v.length + 3 * v.length = 52 by omega] at hl
          simpa using hl
    · split
      · rw [List.length_append, List.length_append, headOf_len, flat_len, List.length_replicate, List.drop_zero]; omega
      · simp
  · refine ⟨[], ?_, go _ ?_, by simp⟩
    · refine Ev.congr (f := fun k => spec_EncodeDescriptor.j0 k (v.length : Int) true s v) (fun k => ?_) st
      unfold spec_EncodeDescriptor.f spec_l3GoodSeq.f
      by_cases c1 : s ≥ 1
      · rw [if_pos c1, Option.bind_some]
        by_cases c2 : s ≤ 4294967295
        · rw [if_pos (by simpa using c2)]
          by_cases c3 : (v.length : Int) < 1
          · rw [if_pos c3]
          rw [if_neg c3, decide_eq_true (by omega)]
        · rw [if_neg (by simpa using c2)]
      · rw [if_neg c1, Option.bind_some, if_neg (by simp)]
    · refine Ev.congr (f := fun k => impl_EncodeDescriptor.j1 k (blk v) true s v) (fun k => ?_) it
      rw [in_tell, in_tell, Option.bind_some]
      by_cases c1 : 1 ≤ s ∧ s ≤ 4294967295
      · rw [if_pos (decide_eq_true c1), Option.bind_some, if_neg (by simp; omega)]
      · rw [if_neg (by simpa using c1)]
theorem heldTS (l : List S67) (s : Int) (h0 : 0 ≤ s) (hl : l.length ≤ 1048576) (hb : s + (2 * l.length : Nat) ≤ 4194304) : Ev (fun k => laws_heldTagS.f k (marksG mkT 2 s l) s) (s + (2 * l.length : Nat)) := by
  refine heldG_ev mkT 2 (L := laws_heldTagS.l0) 4194304 ?_ ?_ l s h0 (by omega) hb
  · intro i x s b hi hxi hx h0 hs r h
    have hw : wrap64 ((i : Int) + 1) = ((i + 1 : Nat) : Int) := by rw [w64 (by omega) (by omega)]; rfl
    have hs2 : wrap64 (s + 1) = s + 1 := w64 (by omega) (by omega)
    have hs3 : wrap64 (s + 1 + 1) = s + ((2 : Nat) : Int) := by rw [w64 (by omega) (by omega)]; omega
    refine Ev.step (fun k => ?_) h
    simp only [laws_heldTagS.l0]
    rw [if_pos (by omega), if_pos (by omega), rd86 x i hi, hxi, hw, hs2, hs3, if_pos (by rfl), if_neg (by simp [mkT])]
  · intro x s
    exact Ev.step (f := fun _ => some s) (fun k => by simp only [laws_heldTagS.l0]; rw [if_neg (by omega)]) (Ev.now _)
end EP
namespace DC
theorem kind_len (l : List Int) (r : Int) (h : impl_BlockKind.f l = some r) (hr : r ≠ 0) : l.length = 64 := by
  unfold impl_BlockKind.f at h
  by_cases c : (l.length : Int) = 64
  · omega
  · rw [if_neg c] at h; exact absurd (Option.some.inj h).symm hr
theorem part_bytes (l : List Int) (hb : ∀ x ∈ l, 0 ≤ x ∧ x ≤ 255) (a b : Nat) : ∀ x ∈ (l.take b).drop a, 0 ≤ x ∧ x ≤ 255 := fun x hx => hb x (List.mem_of_mem_take (List.mem_of_mem_drop hx))
theorem num_ev (l : List Int) (hb : ∀ x ∈ l, 0 ≤ x ∧ x ≤ 255) (a n : Nat) (h : a + n ≤ l.length) (hl : l.length ≤ 1048576) : Ev (fun k => impl_num.f k l (a : Int) (n : Int)) (GN.numOf ((l.take (a + n)).drop a)) := by
  have hw : wrap64 ((a : Int) + (n : Int)) = ((a + n : Nat) : Int) := by rw [w64 (by omega) (by omega)]; rfl
  refine Ev.congr (fun k => ?_) ((GN.impl_ev _ (part_bytes l hb a (a + n))).bind (Ev.now _))
  unfold impl_num.f
  rw [hw, if_pos (by omega), if_pos (by omega), if_pos (by omega), Int.toNat_natCast, Int.toNat_natCast]
theorem parse_no (l : List Int) (kd t : Int) (h : impl_BlockKind.f l = some t) (hk : t ≠ kd) : Ev (fun k => impl_parse.f k l kd) (0, 0, 0, ⟨#[]⟩, 1) := by
  by_cases c : t = 0
  · exact Ev.congr (fun k => by unfold impl_parse.f; rw [h, Option.bind_some, if_pos c]) (Ev.now _)
  · exact Ev.congr (fun k => by unfold impl_parse.f; rw [h, Option.bind_some, if_neg c, if_neg hk]) (Ev.now _)
theorem parse_yes (l : List Int) (hb : ∀ x ∈ l, 0 ≤ x ∧ x ≤ 255) (kd : Int) (h : impl_BlockKind.f l = some kd) (h0 : kd ≠ 0) : Ev (fun k => impl_parse.f k l kd) (kd, GN.numOf ((l.take 8).drop 6), GN.numOf ((l.take 12).drop 8), strOfNums l, 0) := by
  have hl := kind_len l kd h h0
  have n6 : Ev (fun k => impl_num.f k l 6 2) (GN.numOf ((l.take 8).drop 6)) := num_ev l hb 6 2 (by omega) (by omega)
  have n8 : Ev (fun k => impl_num.f k l 8 4) (GN.numOf ((l.take 12).drop 8)) := num_ev l hb 8 4 (by omega) (by omega)
  refine Ev.congr (fun k => by unfold impl_parse.f; rw [h, Option.bind_some, if_neg h0, if_pos rfl]) (n6.bind ?_)
  exact n8.bind (Ev.now _)
theorem held_some (a b c : Int) (l r : List Int) : impl_jblock_held.f a b c (strOfNums l) r = some (if (Lib.bytesOf r == Lib.bytesOf l) = true then 0 else 1) := by
  unfold impl_jblock_held.f
  have e : (strOfNums l).data.toList = Lib.bytesOf l := by rw [← Lib.toList_data]; exact Lib.strOfNums_toList l
  rw [e]
  split <;> rfl
theorem same_some (l r : List Int) : spec_l2Same.f r l = some (Lib.bytesOf r == Lib.bytesOf l) := by
  unfold spec_l2Same.f
  rw [Lib.strOfNums_toList, Lib.strOfNums_toList]
/-- The tag of place j. -/
def at2 (l : List Int) (j : Nat) : S67 := ⟨GN.numOf ((l.take (14 + 3 * j)).drop (12 + 3 * j)), rd l ((14 + 3 * j : Nat) : Int) == 1⟩
def blocks (l : List Int) (i : Nat) : List S67 := (List.range i).map (at2 l)
theorem blocks_succ (l : List Int) (i : Nat) : blocks l (i + 1) = blocks l i ++ [at2 l i] := by simp [blocks, List.range_succ]
theorem blocks_len (l : List Int) (i : Nat) : (blocks l i).length = i := by simp [blocks]
theorem loop (l : List Int) (hb : ∀ x ∈ l, 0 ≤ x ∧ x ≤ 255) (hl : l.length = 64) (seq kd : Int) (hn : GN.numOf ((l.take 8).drop 6) ≤ 17) :
    ∃ r : Bool × Int × List S67, r.2.2.length ≤ 17 ∧ Ev (fun k => spec_DecodeDescriptor.l0 k l 0 seq []) r ∧ Ev (fun k => impl_DecodeDescriptor.l0 k l (GN.numOf ((l.take 8).drop 6)) 0 kd (GN.numOf ((l.take 8).drop 6)) seq (strOfNums l) seq []) r := by
  have n2 := GN.spec_ev _ (part_bytes l hb 6 8)
  generalize GN.numOf ((l.take 8).drop 6) = cnt at n2 hn ⊢
  obtain ⟨N, hN⟩ : ∃ N : Nat, N = cnt.toNat := ⟨_, rfl⟩
  obtain ⟨q, h1, h2, _⟩ := EP.both seq (blocks l N) (by rw [blocks_len]; omega)
  have same := same_some l q
  have held := held_some kd cnt seq l q
  generalize (Lib.bytesOf q == Lib.bytesOf l) = b at same held
  have bl : (blocks l N).length ≤ 17 := by rw [blocks_len]; omega
  refine ⟨if b = true then (true, seq, blocks l N) else (false, 0, []), by cases b <;> simp; exact bl, ?_, ?_⟩
  · have key := down (P := fun i => Ev (fun k => spec_DecodeDescriptor.l0 k l (i : Int) seq (blocks l i)) (if b = true then (true, seq, blocks l N) else (false, 0, []))) N ?_ ?_
    · exact key
    · refine Ev.step (fun k => by rw [spec_DecodeDescriptor.l0, if_pos (by decide), if_pos (by omega)]) (n2.bind ?_)
      refine Ev.congr (fun k => by rw [if_neg (by omega)]) (h1.bind ?_)
      refine Ev.congr (fun k => by rw [same, Option.bind_some]) ?_
      cases b with
      | true => exact Ev.congr (fun k => if_pos rfl) (Ev.now _)
      | false => exact Ev.congr (fun k => if_neg (by decide)) (Ev.now _)
    · intro i hi h
      have w1 : wrap64 (12 + wrap64 (3 * (i : Int))) = ((12 + 3 * i : Nat) : Int) := by rw [w64 (x := 3 * (i : Int)) (by omega) (by omega), w64 (by omega) (by omega)]; omega
      have w2 : wrap64 (((12 + 3 * i : Nat) : Int) + 2) = ((14 + 3 * i : Nat) : Int) := by rw [w64 (by omega) (by omega)]; omega
      have w3 : wrap64 ((i : Int) + 1) = ((i + 1 : Nat) : Int) := by rw [w64 (by omega) (by omega)]; rfl
      have ni := GN.spec_ev _ (part_bytes l hb (12 + 3 * i) (14 + 3 * i))
      have hlen : (blocks l i).length < 8796093022208 := by rw [blocks_len]; omega
      rw [blocks_succ] at h
      refine Ev.step (fun k => by rw [spec_DecodeDescriptor.l0, if_pos (by decide), if_pos (by omega)]) (n2.bind ?_)
      refine Ev.congr (fun k => by rw [if_pos (by omega), w1, w2, if_pos (by omega), if_pos (by omega), if_pos (by omega), Int.toNat_natCast, Int.toNat_natCast]) (ni.bind ?_)
      exact Ev.congr (fun k => by rw [if_pos (by omega), if_pos (by omega), if_pos hlen, w3]; rfl) h
  · have key := down (P := fun i => Ev (fun k => impl_DecodeDescriptor.l0 k l cnt (i : Int) kd cnt seq (strOfNums l) seq (blocks l i)) (if b = true then (true, seq, blocks l N) else (false, 0, []))) N ?_ ?_
    · exact key
    · refine Ev.step (fun k => by rw [impl_DecodeDescriptor.l0, if_neg (by omega)]) (h2.bind ?_)
      refine Ev.congr (fun k => by rw [held, Option.bind_some]) ?_
      cases b with
      | true => exact Ev.congr (fun k => by simp [impl_good.f]) (Ev.now _)
      | false => exact Ev.congr (fun k => by simp [impl_good.f]) (Ev.now _)
    · intro i hi h
      have w1 : wrap64 (12 + wrap64 (3 * (i : Int))) = ((12 + 3 * i : Nat) : Int) := by rw [w64 (x := 3 * (i : Int)) (by omega) (by omega), w64 (by omega) (by omega)]; omega
      have w2 : wrap64 (14 + wrap64 (3 * (i : Int))) = ((14 + 3 * i : Nat) : Int) := by rw [w64 (x := 3 * (i : Int)) (by omega) (by omega), w64 (by omega) (by omega)]; omega
      have w3 : wrap64 ((i : Int) + 1) = ((i + 1 : Nat) : Int) := by rw [w64 (by omega) (by omega)]; rfl
      have ni : Ev (fun k => impl_num.f k l ((12 + 3 * i : Nat) : Int) 2) (GN.numOf ((l.take (14 + 3 * i)).drop (12 + 3 * i))) := by
        have := num_ev l hb (12 + 3 * i) 2 (by omega) (by omega)
        rw [show 12 + 3 * i + 2 = 14 + 3 * i by omega] at this
        exact this
      have hlen : (blocks l i).length < 8796093022208 := by rw [blocks_len]; omega
      rw [blocks_succ] at h
      refine Ev.step (fun k => by rw [impl_DecodeDescriptor.l0, if_pos (by omega), w1, w2]) (ni.bind ?_)
      exact Ev.congr (fun k => by rw [if_pos (by omega), if_pos (by omega), if_pos hlen, w3]; rfl) h
theorem both (l : List Int) (hb : ∀ x ∈ l, 0 ≤ x ∧ x ≤ 255) : ∃ r : Bool × Int × List S67, r.2.2.length ≤ 17 ∧ Ev (fun k => spec_DecodeDescriptor.f k l) r ∧ Ev (fun k => impl_DecodeDescriptor.f k l) r := by
  obtain ⟨t, ht⟩ := BK.some_of l
  have hs := (BK.same l).trans ht
  have no1 : Ev (fun k => spec_DecodeDescriptor.j0 k l true) (false, 0, ([] : List S67)) := Ev.step (f := fun _ => some (false, 0, [])) (fun k => by rw [spec_DecodeDescriptor.j0, if_pos rfl]) (Ev.now _)
  have no2 : ∀ a b c d, Ev (fun k => impl_DecodeDescriptor.j0 k l true a b c d) (false, 0, ([] : List S67)) := fun a b c d => Ev.step (f := fun _ => some (false, 0, [])) (fun k => by rw [impl_DecodeDescriptor.j0, if_pos rfl]) (Ev.now _)
  by_cases c : t = 2
  · subst c
    have hl := kind_len l 2 ht (by decide)
    have hp := parse_yes l hb 2 ht (by decide)
    have n2 := GN.spec_ev _ (part_bytes l hb 6 8)
    have n1 := GN.spec_ev _ (part_bytes l hb 8 12)
    have sp : ∀ r, Ev (fun k => spec_DecodeDescriptor.j0 k l (decide (GN.numOf ((l.take 8).drop 6) > 17))) r → Ev (fun k => spec_DecodeDescriptor.f k l) r := fun r h =>
      Ev.congr (fun k => by unfold spec_DecodeDescriptor.f; rw [hs, Option.bind_some, if_pos rfl, if_pos (by decide), if_pos (by omega)]) (n2.bind h)
    have im : ∀ r, Ev (fun k => impl_DecodeDescriptor.j0 k l (decide (GN.numOf ((l.take 8).drop 6) > 17)) 2 (GN.numOf ((l.take 8).drop 6)) (GN.numOf ((l.take 12).drop 8)) (strOfNums l)) r → Ev (fun k => impl_DecodeDescriptor.f k l) r := fun r h =>
      Ev.congr (fun k => by unfold impl_DecodeDescriptor.f; rfl) (hp.bind (Ev.congr (fun k => by simp only [impl_good.f, Option.bind_some]; rw [if_pos (by decide)]) h))
    by_cases cn : GN.numOf ((l.take 8).drop 6) > 17
    · refine ⟨(false, 0, []), by simp, sp _ ?_, im _ ?_⟩
      · rw [decide_eq_true cn]; exact no1
      · rw [decide_eq_true cn]; exact no2 _ _ _ _
    · obtain ⟨r, h1, h2, h3⟩ := loop l hb hl (GN.numOf ((l.take 12).drop 8)) 2 (by omega)
      refine ⟨r, h1, sp r ?_, im r ?_⟩
      · rw [decide_eq_false cn]
        refine Ev.step (fun k => by rw [spec_DecodeDescriptor.j0, if_neg (by decide), if_pos (by decide), if_pos (by omega)]) (n1.bind h2)
      · rw [decide_eq_false cn]
        exact Ev.step (fun k => by rw [impl_DecodeDescriptor.j0, if_neg (by decide)]) h3
  · refine ⟨(false, 0, []), by simp, Ev.congr (fun k => by unfold spec_DecodeDescriptor.f; rw [hs, Option.bind_some, if_neg c]) no1, ?_⟩
    refine Ev.congr (fun k => by unfold impl_DecodeDescriptor.f; rfl) ((parse_no l 2 t ht c).bind ?_)
    exact Ev.congr (fun k => by simp only [impl_good.f, Option.bind_some]; rw [if_neg (by decide)]) (no2 _ _ _ _)
end DC
theorem FnExactDecodeDescriptor : laws_FnExactDecodeDescriptor.Pure := by
  intro l _ hl hw
  by_cases h : (l.length : Int) > 1048576
  · exact ⟨0, by unfold laws_FnExactDecodeDescriptor.f; rw [if_pos h]⟩
  have t := toS_ev (F := laws_toByteS.f) (fun _ _ => rfl) (fun _ _ _ _ => rfl) l (by omega) (by omega)
  have et := eqS_ev (F := laws_eqByteS.f) (fun _ _ _ => rfl) (fun _ _ _ _ => rfl) l (by omega)
  have mt : Ev (fun k => laws_markByteS.f k l 1) _ := mark_ev (fun x => x % 256) (L := laws_markByteS.l0) (fun _ _ _ _ => rfl) l 1 (by omega) (by omega)
  obtain ⟨r, hr, s, i⟩ := DC.both l (fun x hx => wfb (hw x hx))
  have e0 := EP.eqTS r.2.2 (by omega)
  have m0 := EP.markTS r.2.2 1 (by omega) (by omega) (by omega)
  have d0 := EP.heldTS r.2.2 1 (by omega) (by omega) (by omega)
  have e : Ev (fun k => laws_eqDescriptorResult.f k r.1 r.2.1 r.2.2 r.1 r.2.1 r.2.2) true :=
    Ev.congr (fun k => by unfold laws_eqDescriptorResult.f laws_eqDescriptor.f; rw [if_neg (by simp), if_pos rfl]) ((e0.bind (Ev.congr (fun k => if_pos rfl) (Ev.now true))).bind (Ev.congr (fun k => if_pos rfl) (Ev.now true)))
  have m : Ev (fun k => laws_markDescriptorResult.f k r.1 r.2.1 r.2.2 1) (1 + (2 * r.2.2.length : Nat), marksG EP.mkT 2 1 r.2.2) := (m0.bind (Ev.now _)).bind (Ev.now _)
  have hd : Ev (fun k => laws_heldDescriptorResult.f k r.1 r.2.1 (marksG EP.mkT 2 1 r.2.2) 1) (1 + (2 * r.2.2.length : Nat)) :=
    (d0.bind (Ev.congr (fun k => if_neg (by omega)) (Ev.now _))).bind (Ev.congr (fun k => if_neg (by omega)) (Ev.now _))
  refine Ev.rounds (Ev.congr (fun k => by unfold laws_FnExactDecodeDescriptor.f; rw [if_neg h]) ?_)
  refine t.bind ?_
  refine s.bind ?_
  refine t.bind ?_
  refine i.bind ?_
  refine e.bind ?_
  refine Ev.congr (fun k => if_pos rfl) ?_
  refine t.bind ?_
  refine et.bind ?_
  refine Ev.congr (fun k => if_pos rfl) ?_
  refine mt.bind ?_
  refine Ev.congr (fun k => if_neg (by simp only; omega)) ?_
  refine e.bind ?_
  refine Ev.step (fun k => by simp only [laws_FnExactDecodeDescriptor.j0]; rw [if_neg (by decide)]) ?_
  refine m.bind ?_
  refine hd.bind ?_
  refine Ev.congr (fun k => if_neg (by omega)) ?_
  refine Ev.congr (fun k => if_pos rfl) ?_
  refine t.bind ?_
  refine i.bind ?_
  refine e.bind ?_
  refine Ev.congr (fun k => if_pos rfl) ?_
  refine hd.bind ?_
  refine Ev.congr (fun k => if_neg (by omega)) ?_
  exact Ev.congr (fun k => if_pos rfl) (Ev.now true)
end Go.Proofs.YtmlahbgogbjfpaaDoor.Pure
