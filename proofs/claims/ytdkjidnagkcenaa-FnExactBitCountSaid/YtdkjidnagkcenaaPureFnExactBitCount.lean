/- FnExactBitCount: at every list of bytes and every two numbers the program's BitCount returns what the reference's returns, and the bytes stay as they were. -/
import Derived.Test.YtdkjidnagkcenaaPFnExactBitCountx2
import Derived.Test.YtdkjidnagkcenaaHlp
namespace Go.Proofs.Ytdkjidnagkcenaa.Pure
open Go.RowKit Go.Proofs.Ytdkjidnagkcenaa.PFnExactBitCount Go.Proofs.YtdkjidnagkcenaaW.PrintWords Go.Proofs.YtdkjidnagkcenaaW.PrintLast Go.Proofs.YtdkjidnagkcenaaW.PrintMore Go.Proofs.Ytdkjidnagkcenaa.Hlp
namespace BC
/-- What both say. -/
def bitOf (l : List Int) (i : Int) : Bool := decide (l.length ≤ 2048 ∧ 0 ≤ i ∧ i < 8 * l.length) && ((rd l (i / 8) / 2 ^ (i % 8).toNat) % 2 == 1)
theorem half_ev (n : Nat) : ∀ x : Int, 0 ≤ x → x ≤ 255 → n < 8 → Ev (fun k => spec_BitGet.l0 k x (n : Int)) ((x / 2 ^ n) % 2 == 1) := by
  induction n with
  | zero =>
    intro x h0 h1 _
    refine Ev.step (f := fun _ => some ((x / 2 ^ 0) % 2 == 1)) (fun k => ?_) (Ev.now _)
    simp only [spec_BitGet.l0]; rw [if_neg (by omega), Int.tmod_eq_emod_of_nonneg h0]; simp
  | succ n ih =>
    intro x h0 h1 hn
    refine Ev.step (f := fun k => spec_BitGet.l0 k (x / 2) (n : Int)) (fun k => ?_) ?_
    · simp only [spec_BitGet.l0]
      rw [if_pos (by omega), w64 (by omega) (by omega), Int.tdiv_eq_ediv_of_nonneg h0, show (x / 2) % 256 = x / 2 by omega]
      congr 1; omega
    · have h := ih (x / 2) (by omega) (by omega) (by omega)
      have e : x / 2 / 2 ^ n = x / 2 ^ (n + 1) := by
        rw [Int.ediv_ediv_of_nonneg (by omega), Int.pow_succ, Int.mul_comm]
      rwa [e] at h
theorem specBit_ev (l : List Int) (i : Int) (hb : ∀ x ∈ l, 0 ≤ x ∧ x ≤ 255) (hl : l.length ≤ 281474976710656) : Ev (fun k => spec_BitGet.f k l i) (bitOf l i) := by
  have hj : ∀ k b, spec_BitGet.j0 (k + 1) l i b = if b = true then (some false) else (if 0 ≤ (wrap64 (Int.tdiv i 8)) then (if (wrap64 (Int.tdiv i 8)) < (l.length : Int) then (spec_BitGet.l0 k (rd l (wrap64 (Int.tdiv i 8))) (Int.tmod i 8)) else (none)) else (none)) := fun _ _ => rfl
  by_cases h1 : (l.length : Int) > 2048
  · have : bitOf l i = false := by unfold bitOf; rw [decide_eq_false (by omega)]; rfl
    rw [this]
    refine Ev.step (f := fun _ => some false) (fun k => ?_) (Ev.now _)
    unfold spec_BitGet.f; rw [if_pos h1, hj, if_pos rfl]
  by_cases h2 : i < 0
  · have : bitOf l i = false := by unfold bitOf; rw [decide_eq_false (by omega)]; rfl
    rw [this]
    refine Ev.step (f := fun _ => some false) (fun k => ?_) (Ev.now _)
    unfold spec_BitGet.f; rw [if_neg h1, if_pos h2, hj, if_pos rfl]
  have w : wrap64 (8 * (l.length : Int)) = 8 * (l.length : Int) := w64 (by omega) (by omega)
  by_cases h3 : i ≥ 8 * (l.length : Int)
  · have : bitOf l i = false := by unfold bitOf; rw [decide_eq_false (by omega)]; rfl
    rw [this]
    refine Ev.step (f := fun _ => some false) (fun k => ?_) (Ev.now _)
    unfold spec_BitGet.f; rw [if_neg h1, if_neg h2, w, hj, if_pos (decide_eq_true h3)]
  · have hd : wrap64 (Int.tdiv i 8) = i / 8 := by rw [Int.tdiv_eq_ediv_of_nonneg (by omega)]; exact w64 (by omega) (by omega)
    have hm : Int.tmod i 8 = ((i % 8).toNat : Int) := by rw [Int.tmod_eq_emod_of_nonneg (by omega)]; omega
    have hr := hb _ (rd_mem (l := l) (i := i / 8) (by omega) (by omega))
    have : bitOf l i = ((rd l (i / 8) / 2 ^ (i % 8).toNat) % 2 == 1) := by unfold bitOf; rw [decide_eq_true (by omega)]; rfl
    rw [this]
    refine Ev.step (f := fun k => spec_BitGet.l0 k (rd l (i / 8)) ((i % 8).toNat : Int)) (fun k => ?_) (half_ev _ _ hr.1 hr.2 (by omega))
    unfold spec_BitGet.f; rw [if_neg h1, if_neg h2, w, hj, if_neg (by simpa using h3), hd, hm, if_pos (by omega), if_pos (by omega)]
theorem implBit (l : List Int) (i : Int) (hb : ∀ x ∈ l, 0 ≤ x ∧ x ≤ 255) (hl : l.length ≤ 281474976710656) : impl_BitGet.f l i = some (bitOf l i) := by
  unfold impl_BitGet.f impl_bitlen.f
  by_cases h2 : i ≥ 0
  rotate_left
  · have : bitOf l i = false := by unfold bitOf; rw [decide_eq_false (by omega)]; rfl
    rw [if_neg h2, this]
  rw [if_pos h2]
  by_cases h1 : (l.length : Int) > 2048
  · have : bitOf l i = false := by unfold bitOf; rw [decide_eq_false (by omega)]; rfl
    rw [if_pos h1, this]; simp only [Option.bind_some]; rw [if_neg (by omega)]
  rw [if_neg h1, w64 (by omega) (by omega)]; simp only [Option.bind_some]
  by_cases h3 : i < (l.length : Int) * 8
  rotate_left
  · have : bitOf l i = false := by unfold bitOf; rw [decide_eq_false (by omega)]; rfl
    rw [if_neg h3, this]
  have hd : wrap64 (Int.tdiv i 8) = i / 8 := by rw [Int.tdiv_eq_ediv_of_nonneg (by omega)]; exact w64 (by omega) (by omega)
  have hm : Int.tmod i 8 = ((i % 8).toNat : Int) := by rw [Int.tmod_eq_emod_of_nonneg (by omega)]; omega
  have hr := hb _ (rd_mem (l := l) (i := i / 8) (by omega) (by omega))
  have : bitOf l i = ((rd l (i / 8) / 2 ^ (i % 8).toNat) % 2 == 1) := by unfold bitOf; rw [decide_eq_true (by omega)]; rfl
  have hp : (0 : Int) < 2 ^ (i % 8).toNat := Int.pow_pos (by decide)
  have hs : shr .u8 (rd l (i / 8)) ((i % 8).toNat : Int) = rd l (i / 8) / 2 ^ (i % 8).toNat := by
    unfold shr; rw [Int.toNat_natCast, Nat.min_eq_left (by simp only [IntKind.bits]; omega)]
  have hq : rd l (i / 8) / 2 ^ (i % 8).toNat ≤ rd l (i / 8) := Int.ediv_le_self _ hr.1
  rw [if_pos h3, hd, hm, if_pos (by omega), if_pos (by omega), if_pos (by omega), hs, u8_and1 _ (Int.ediv_nonneg hr.1 (Int.le_of_lt hp)) (by omega), this]
def blen (l : List Int) : Int := if (l.length : Int) > 2048 then 0 else 8 * l.length
theorem blen_bd (l : List Int) : 0 ≤ blen l ∧ blen l ≤ 16384 := by unfold blen; split <;> omega
theorem bitlen_eq (l : List Int) (hl : l.length ≤ 281474976710656) : impl_bitlen.f l = some (blen l) := by
  unfold impl_bitlen.f blen; split
  · rfl
  · rw [w64 (by omega) (by omega), Int.mul_comm]
theorem within_eq (l : List Int) (a b : Int) (hl : l.length ≤ 281474976710656) : spec_l8Within.f l a b = some (max 0 a, min (blen l) b) := by
  unfold spec_l8Within.f blen mx mn
  by_cases h : (l.length : Int) > 2048
  · rw [if_pos h, if_pos h]; congr 2 <;> (split <;> omega)
  · rw [if_neg h, if_neg h, w64 (by omega) (by omega)]; congr 2 <;> (split <;> omega)
theorem mn_eq (a b : Int) : mn a b = min a b := by unfold mn; split <;> omega
theorem mx_eq (a b : Int) : mx a b = max a b := by unfold mx; split <;> omega
theorem count_loops (l : List Int) (b : Int) (hb : ∀ x ∈ l, 0 ≤ x ∧ x ≤ 255) (hl : l.length ≤ 281474976710656) (d : Nat) : ∀ i n : Int, 0 ≤ i → i ≤ 9223372036854775807 → 0 ≤ n → n + d ≤ 9223372036854775807 → (min (blen l) b - i).toNat = d →
    ∃ r, Ev (fun k => spec_BitCount.l0 k l (min (blen l) b) n i) r ∧ Ev (fun k => impl_BitCount.l0 k l b n i) r ∧ r = n + (((List.range d).filter (fun j : Nat => bitOf l (i + j))).length : Int) := by
  have hbl := blen_bd l
  induction d with
  | zero =>
    intro i n h0 h1 _ _ hd
    have hlt : ¬ i < min (blen l) b := by omega
    refine ⟨n, ?_, ?_, by simp⟩
    · exact Ev.step (f := fun _ => some n) (fun k => by simp only [spec_BitCount.l0]; rw [if_neg hlt]) (Ev.now _)
    · exact Ev.step (f := fun _ => some n) (fun k => by simp only [impl_BitCount.l0]; rw [bitlen_eq l hl]; simp only [Option.bind_some]; rw [mn_eq, if_neg (by omega)]) (Ev.now _)
  | succ d ih =>
    intro i n h0 h1 hn0 hn1 hd
    have hlt : i < min (blen l) b := by omega
    have hi := implBit l i hb hl
    have hs := specBit_ev l i hb hl
    have hc : ((List.range (d + 1)).filter (fun j : Nat => bitOf l (i + j))).length = (if bitOf l i = true then 1 else 0) + ((List.range d).filter (fun j : Nat => bitOf l (i + 1 + j))).length := by
      rw [List.range_succ_eq_map, List.filter_cons]
      have : ((List.range d).map Nat.succ).filter (fun j : Nat => bitOf l (i + j)) = ((List.range d).filter (fun j : Nat => bitOf l (i + 1 + j))).map Nat.succ := by
        rw [List.filter_map]; congr 1
        apply List.filter_congr; intro x _; simp only [Function.comp]; congr 1; omega
      rw [this, show i + ((0 : Nat) : Int) = i by omega]
      split <;> simp <;> omega
    cases hbit : bitOf l i with
    | true =>
      rw [hbit] at hi hs hc
      obtain ⟨r, h2, h3, h4⟩ := ih (i + 1) (n + 1) (by omega) (by omega) (by omega) (by omega) (by omega)
      refine ⟨r, ?_, ?_, by rw [h4, hc]; simp; omega⟩
      · refine Ev.step (f := fun k => (spec_BitGet.f k l i).bind fun t111 => (if t111 = true then (spec_BitCount.l0 k l (min (blen l) b) (wrap64 (n + 1)) (wrap64 (i + 1))) else (spec_BitCount.l0 k l (min (blen l) b) n (wrap64 (i + 1))))) (fun k => by simp only [spec_BitCount.l0]; rw [if_pos hlt]) (hs.bind ?_)
        exact Ev.congr (fun k => by rw [if_pos rfl, w64 (by omega) (by omega), w64 (by omega) (by omega)]) h2
      · exact Ev.step (f := fun k => impl_BitCount.l0 k l b (n + 1) (i + 1)) (fun k => by
          simp only [impl_BitCount.l0]; rw [bitlen_eq l hl]; simp only [Option.bind_some]; rw [mn_eq, if_pos (by omega), hi]; simp only [Option.bind_some]; rw [if_pos trivial, w64 (by omega) (by omega), w64 (by omega) (by omega)]) h3
    | false =>
      rw [hbit] at hi hs hc
      obtain ⟨r, h2, h3, h4⟩ := ih (i + 1) n (by omega) (by omega) (by omega) (by omega) (by omega)
      refine ⟨r, ?_, ?_, by rw [h4, hc]; simp⟩
      · refine Ev.step (f := fun k => (spec_BitGet.f k l i).bind fun t111 => (if t111 = true then (spec_BitCount.l0 k l (min (blen l) b) (wrap64 (n + 1)) (wrap64 (i + 1))) else (spec_BitCount.l0 k l (min (blen l) b) n (wrap64 (i + 1))))) (fun k => by simp only [spec_BitCount.l0]; rw [if_pos hlt]) (hs.bind ?_)
        exact Ev.congr (fun k => by rw [if_neg (by simp), w64 (by omega) (by omega)]) h2
      · exact Ev.step (f := fun k => impl_BitCount.l0 k l b n (i + 1)) (fun k => by
          simp only [impl_BitCount.l0]; rw [bitlen_eq l hl]; simp only [Option.bind_some]; rw [mn_eq, if_pos (by omega), hi]; simp only [Option.bind_some]; rw [if_neg (by simp), w64 (by omega) (by omega)]) h3
theorem both (l : List Int) (a b : Int) (hb : ∀ x ∈ l, 0 ≤ x ∧ x ≤ 255) (hl : l.length ≤ 281474976710656) (ha : a ≤ 9223372036854775807) : ∃ r, Ev (fun k => spec_BitCount.f k l a b) r ∧ Ev (fun k => impl_BitCount.f k l a b) r := by
  have hbl := blen_bd l
  obtain ⟨r, h1, h2, _⟩ := count_loops l b hb hl _ (max 0 a) 0 (by omega) (by omega) (by omega) (by omega) rfl
  refine ⟨r, ?_, ?_⟩
  · exact Ev.congr (fun k => by unfold spec_BitCount.f; rw [within_eq l a b hl]; rfl) h1
  · exact Ev.congr (fun k => by unfold impl_BitCount.f; rw [mx_eq, show max a 0 = max 0 a by omega]) h2
end BC
theorem FnExactBitCount : laws_FnExactBitCount.Pure := by
  intro l a b _ hl hb wa _
  by_cases h : (l.length : Int) > 1048576
  · exact ⟨0, by unfold laws_FnExactBitCount.f; rw [if_pos h]⟩
  have hb' : ∀ x ∈ l, 0 ≤ x ∧ x ≤ 255 := fun x hx => wfb (hb x hx)
  have t := toS_ev (F := laws_toByteS.f) (fun _ _ => rfl) (fun _ _ _ _ => rfl) l (by omega) (by omega)
  have e := eqS_ev (F := laws_eqByteS.f) (fun _ _ _ => rfl) (fun _ _ _ _ => rfl) l (by omega)
  obtain ⟨r, s, i⟩ := BC.both l a b hb' (by omega) (wfi wa).2
  refine Ev.rounds (Ev.congr (fun k => by unfold laws_FnExactBitCount.f; rw [if_neg h]) ?_)
  refine t.bind (s.bind (t.bind (i.bind ?_)))
  refine Ev.congr (fun k => by rw [if_pos rfl]) ?_
  exact t.bind (e.bind (Ev.now true))
end Go.Proofs.Ytdkjidnagkcenaa.Pure
