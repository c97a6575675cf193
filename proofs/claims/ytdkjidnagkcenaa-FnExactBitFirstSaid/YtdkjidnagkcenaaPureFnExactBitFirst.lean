/- FnExactBitFirst: at every list of bytes and every two numbers the program's BitFirst returns what the reference's returns, and the bytes stay as they were. -/
import Derived.Test.YtdkjidnagkcenaaPFnExactBitFirstx2
import Derived.Test.YtdkjidnagkcenaaHlp
namespace Go.Proofs.Ytdkjidnagkcenaa.Pure
open Go.RowKit Go.Proofs.Ytdkjidnagkcenaa.PFnExactBitFirst Go.Proofs.YtdkjidnagkcenaaW.PrintWords Go.Proofs.YtdkjidnagkcenaaW.PrintLast Go.Proofs.YtdkjidnagkcenaaW.PrintMore Go.Proofs.Ytdkjidnagkcenaa.Hlp
namespace BF
/-- What both say. -/
def bitOf (l : List Int) (i : Int) : Bool := decide (l.length ≤ 2048 ∧ 0 ≤ i ∧ i < 8 * l.length) && ((rd l (i / 8) / 2 ^ (i % 8).toNat) % 2 == 1)
theorem half_ev (n : Nat) : ∀ x : Int, 0 ≤ x → x ≤ 255 → n < 8 → Ev (fun k => spec_BitGet.l0 k x (n : Int)) ((x / 2 ^ n) % 2 == 1) := by
  induction n with
  | zero =>
    intro x h0 h1 _
    refine Ev.step (f := fun _ => some ((x / 2 ^ 0) % 2 == 1)) (fun k => ?_) (Ev.now _)
    simp only [spec_BitGet.l0]; rw [if_neg (by omega), Int.tmod_eq_emod_of_nonneg h0]; simp
  | succ n ih =>
    intro x h0 h1 hn
    refine Ev.step (f := fun k => spec_BitGet.l0 k (x / 2) (n : Int)) (fun k => ?_) ?_
    · simp only [spec_BitGet.l0]
      rw [if_pos (by omega), w64 (by omega) (by omega), Int.tdiv_eq_ediv_of_nonneg h0, show (x / 2) % 256 = x / 2 by omega]
      congr 1; omega
    · have h := ih (x / 2) (by omega) (by omega) (by omega)
      have e : x / 2 / 2 ^ n = x / 2 ^ (n + 1) := by
        rw [Int.ediv_ediv_of_nonneg (by omega), Int.pow_succ, Int.mul_comm]
      rwa [e] at h
theorem specBit_ev (l : List Int) (i : Int) (hb : ∀ x ∈ l, 0 ≤ x ∧ x ≤ 255) (hl : l.length ≤ 281474976710656) : Ev (fun k => spec_BitGet.f k l i) (bitOf l i) := by
  have hj : ∀ k b, spec_BitGet.j0 (k + 1) l i b = if b = true then (some false) else (if 0 ≤ (wrap64 (Int.tdiv i 8)) then (if (wrap64 (Int.tdiv i 8)) < (l.length : Int) then (spec_BitGet.l0 k (rd l (wrap64 (Int.tdiv i 8))) (Int.tmod i 8)) else (none)) else (none)) := fun _ _ => rfl
  by_cases h1 : (l.length : Int) > 2048
  · have : bitOf l i = false := by unfold bitOf; rw [decide_eq_false (by omega)]; rfl
    rw [this]
    refine Ev.step (f := fun _ => some false) (fun k => ?_) (Ev.now _)
    unfold spec_BitGet.f; rw [if_pos h1, hj, if_pos rfl]
  by_cases h2 : i < 0
  · have : bitOf l i = false := by unfold bitOf; rw [decide_eq_false (by omega)]; rfl
    rw [this]
    refine Ev.step (f := fun _ => some false) (fun k => ?_) (Ev.now _)
    unfold spec_BitGet.f; rw [if_neg h1, if_pos h2, hj, if_pos rfl]
  have w : wrap64 (8 * (l.length : Int)) = 8 * (l.length : Int) := w64 (by omega) (by omega)
  by_cases h3 : i ≥ 8 * (l.length : Int)
  · have : bitOf l i = false := by unfold bitOf; rw [decide_eq_false (by omega)]; rfl
    rw [this]
    refine Ev.step (f := fun _ => some false) (fun k => ?_) (Ev.now _)
    unfold spec_BitGet.f; rw [if_neg h1, if_neg h2, w, hj, if_pos (decide_eq_true h3)]
  · have hd : wrap64 (Int.tdiv i 8) = i / 8 := by rw [Int.tdiv_eq_ediv_of_nonneg (by omega)]; exact w64 (by omega) (by omega)
    have hm : Int.tmod i 8 = ((i % 8).toNat : Int) := by rw [Int.tmod_eq_emod_of_nonneg (by omega)]; omega
    have hr := hb _ (rd_mem (l := l) (i := i / 8) (by omega) (by omega))
    have : bitOf l i = ((rd l (i / 8) / 2 ^ (i % 8).toNat) % 2 == 1) := by unfold bitOf; rw [decide_eq_true (by omega)]; rfl
    rw [this]
    refine Ev.step (f := fun k => spec_BitGet.l0 k (rd l (i / 8)) ((i % 8).toNat : Int)) (fun k => ?_) (half_ev _ _ hr.1 hr.2 (by omega))
    unfold spec_BitGet.f; rw [if_neg h1, if_neg h2, w, hj, if_neg (by simpa using h3), hd, hm, if_pos (by omega), if_pos (by omega)]
theorem implBit (l : List Int) (i : Int) (hb : ∀ x ∈ l, 0 ≤ x ∧ x ≤ 255) (hl : l.length ≤ 281474976710656) : impl_BitGet.f l i = some (bitOf l i) := by
  unfold impl_BitGet.f impl_bitlen.f
  by_cases h2 : i ≥ 0
  rotate_left
  · have : bitOf l i = false := by unfold bitOf; rw [decide_eq_false (by omega)]; rfl
    rw [if_neg h2, this]
  rw [if_pos h2]
  by_cases h1 : (l.length : Int) > 2048
  · have : bitOf l i = false := by unfold bitOf; rw [decide_eq_false (by omega)]; rfl
    rw [if_pos h1, this]; simp only [Option.bind_some]; rw [if_neg (by omega)]
  rw [if_neg h1, w64 (by omega) (by omega)]; simp only [Option.bind_some]
  by_cases h3 : i < (l.length : Int) * 8
  rotate_left
  · have : bitOf l i = false := by unfold bitOf; rw [decide_eq_false (by omega)]; rfl
    rw [if_neg h3, this]
  have hd : wrap64 (Int.tdiv i 8) = i / 8 := by rw [Int.tdiv_eq_ediv_of_nonneg (by omega)]; exact w64 (by omega) (by omega)
  have hm : Int.tmod i 8 = ((i % 8).toNat : Int) := by rw [Int.tmod_eq_emod_of_nonneg (by omega)]; omega
  have hr := hb _ (rd_mem (l := l) (i := i / 8) (by omega) (by omega))
  have : bitOf l i = ((rd l (i / 8) / 2 ^ (i % 8).toNat) % 2 == 1) := by unfold bitOf; rw [decide_eq_true (by omega)]; rfl
  have hp : (0 : Int) < 2 ^ (i % 8).toNat := Int.pow_pos (by decide)
  have hs : shr .u8 (rd l (i / 8)) ((i % 8).toNat : Int) = rd l (i / 8) / 2 ^ (i % 8).toNat := by
    unfold shr; rw [Int.toNat_natCast, Nat.min_eq_left (by simp only [IntKind.bits]; omega)]
  have hq : rd l (i / 8) / 2 ^ (i % 8).toNat ≤ rd l (i / 8) := Int.ediv_le_self _ hr.1
  rw [if_pos h3, hd, hm, if_pos (by omega), if_pos (by omega), if_pos (by omega), hs, u8_and1 _ (Int.ediv_nonneg hr.1 (Int.le_of_lt hp)) (by omega), this]
def blen (l : List Int) : Int := if (l.length : Int) > 2048 then 0 else 8 * l.length
theorem blen_bd (l : List Int) : 0 ≤ blen l ∧ blen l ≤ 16384 := by unfold blen; split <;> omega
theorem bitlen_eq (l : List Int) (hl : l.length ≤ 281474976710656) : impl_bitlen.f l = some (blen l) := by
  unfold impl_bitlen.f blen; split
  · rfl
  · rw [w64 (by omega) (by omega), Int.mul_comm]
theorem within_eq (l : List Int) (a b : Int) (hl : l.length ≤ 281474976710656) : spec_l8Within.f l a b = some (max 0 a, min (blen l) b) := by
  unfold spec_l8Within.f blen mx mn
  by_cases h : (l.length : Int) > 2048
  · rw [if_pos h, if_pos h]; congr 2 <;> (split <;> omega)
  · rw [if_neg h, if_neg h, w64 (by omega) (by omega)]; congr 2 <;> (split <;> omega)
theorem mn_eq (a b : Int) : mn a b = min a b := by unfold mn; split <;> omega
theorem mx_eq (a b : Int) : mx a b = max a b := by unfold mx; split <;> omega
theorem first_loops (l : List Int) (b : Int) (hb : ∀ x ∈ l, 0 ≤ x ∧ x ≤ 255) (hl : l.length ≤ 281474976710656) (d : Nat) : ∀ i : Int, 0 ≤ i → i ≤ 9223372036854775807 → (min (blen l) b - i).toNat = d →
    ∃ r, Ev (fun k => spec_BitFirst.l0 k l (min (blen l) b) i) r ∧ Ev (fun k => impl_BitFirst.l0 k l b i) r ∧ ((r = -1 ∧ ∀ j, i ≤ j → j < min (blen l) b → bitOf l j = true) ∨ (i ≤ r ∧ r < min (blen l) b ∧ bitOf l r = false ∧ ∀ j, i ≤ j → j < r → bitOf l j = true)) := by
  have hbl := blen_bd l
  induction d with
  | zero =>
    intro i h0 h1 hd
    have hlt : ¬ i < min (blen l) b := by omega
    refine ⟨-1, ?_, ?_, .inl ⟨rfl, fun j h1 h2 => by omega⟩⟩
    · exact Ev.step (f := fun _ => some (-1)) (fun k => by simp only [spec_BitFirst.l0]; rw [if_neg hlt]) (Ev.now _)
    · exact Ev.step (f := fun _ => some (-1)) (fun k => by simp only [impl_BitFirst.l0]; rw [bitlen_eq l hl]; simp only [Option.bind_some]; rw [mn_eq, if_neg (by omega)]) (Ev.now _)
  | succ d ih =>
    intro i h0 h1 hd
    have hlt : i < min (blen l) b := by omega
    have hi := implBit l i hb hl
    have hs := specBit_ev l i hb hl
    cases hbit : bitOf l i with
    | true =>
      rw [hbit] at hi hs
      obtain ⟨r, h2, h3, h4⟩ := ih (i + 1) (by omega) (by omega) (by omega)
      refine ⟨r, ?_, ?_, ?_⟩
      · refine Ev.step (f := fun k => (spec_BitGet.f k l i).bind fun t111 => (if t111 = true then (spec_BitFirst.l0 k l (min (blen l) b) (wrap64 (i + 1))) else (some i))) (fun k => by simp only [spec_BitFirst.l0]; rw [if_pos hlt]) (hs.bind ?_)
        exact Ev.congr (fun k => by rw [if_pos rfl, w64 (by omega) (by omega)]) h2
      · exact Ev.step (f := fun k => impl_BitFirst.l0 k l b (i + 1)) (fun k => by
          simp only [impl_BitFirst.l0]; rw [bitlen_eq l hl]; simp only [Option.bind_some]; rw [mn_eq, if_pos (by omega), hi]; simp only [Option.bind_some]; rw [if_pos trivial, w64 (by omega) (by omega)]) h3
      · rcases h4 with ⟨e, h5⟩ | ⟨h5, h6, h7, h8⟩
        · exact .inl ⟨e, fun j hj1 hj2 => by rcases Int.lt_or_eq_of_le hj1 with h | h; exact h5 j (by omega) hj2; rw [← h]; exact hbit⟩
        · exact .inr ⟨by omega, h6, h7, fun j hj1 hj2 => by rcases Int.lt_or_eq_of_le hj1 with h | h; exact h8 j (by omega) hj2; rw [← h]; exact hbit⟩
    | false =>
      rw [hbit] at hi hs
      refine ⟨i, ?_, ?_, .inr ⟨by omega, hlt, hbit, fun j h1 h2 => by omega⟩⟩
      · refine Ev.step (f := fun k => (spec_BitGet.f k l i).bind fun t111 => (if t111 = true then (spec_BitFirst.l0 k l (min (blen l) b) (wrap64 (i + 1))) else (some i))) (fun k => by simp only [spec_BitFirst.l0]; rw [if_pos hlt]) (hs.bind ?_)
        exact Ev.congr (fun k => by rw [if_neg (by simp)]) (Ev.now i)
      · exact Ev.step (f := fun _ => some i) (fun k => by
          simp only [impl_BitFirst.l0]; rw [bitlen_eq l hl]; simp only [Option.bind_some]; rw [mn_eq, if_pos (by omega), hi]; simp) (Ev.now i)
theorem both (l : List Int) (a b : Int) (hb : ∀ x ∈ l, 0 ≤ x ∧ x ≤ 255) (hl : l.length ≤ 281474976710656) (ha : a ≤ 9223372036854775807) : ∃ r, Ev (fun k => spec_BitFirst.f k l a b) r ∧ Ev (fun k => impl_BitFirst.f k l a b) r := by
  obtain ⟨r, h1, h2, _⟩ := first_loops l b hb hl _ (max 0 a) (by omega) (by omega) rfl
  refine ⟨r, ?_, ?_⟩
  · exact Ev.congr (fun k => by unfold spec_BitFirst.f; rw [within_eq l a b hl]; rfl) h1
  · exact Ev.congr (fun k => by unfold impl_BitFirst.f; rw [mx_eq, show max a 0 = max 0 a by omega]) h2
end BF
theorem FnExactBitFirst : laws_FnExactBitFirst.Pure := by
  intro l a b _ hl hb wa _
  by_cases h : (l.length : Int) > 1048576
  · exact ⟨0, by unfold laws_FnExactBitFirst.f; rw [if_pos h]⟩
  have hb' : ∀ x ∈ l, 0 ≤ x ∧ x ≤ 255 := fun x hx => wfb (hb x hx)
  have t := toS_ev (F := laws_toByteS.f) (fun _ _ => rfl) (fun _ _ _ _ => rfl) l (by omega) (by omega)
  have e := eqS_ev (F := laws_eqByteS.f) (fun _ _ _ => rfl) (fun _ _ _ _ => rfl) l (by omega)
  obtain ⟨r, s, i⟩ := BF.both l a b hb' (by omega) (wfi wa).2
  refine Ev.rounds (Ev.congr (fun k => by unfold laws_FnExactBitFirst.f; rw [if_neg h]) ?_)
  refine t.bind (s.bind (t.bind (i.bind ?_)))
  refine Ev.congr (fun k => by rw [if_pos rfl]) ?_
  exact t.bind (e.bind (Ev.now true))
end Go.Proofs.Ytdkjidnagkcenaa.Pure
