/- FnBits: at every code the drawn bits' runs are all off, lie apart in order and within the bounds, and have between them what is counted; the first bit that is off begins the first run; a bit put on is on, and all others are as they were. -/
import Derived.Test.YtikandlenlhdkaaPFnBitsx5
import Derived.Test.YtikandlenlhdkaaHlp
import Derived.Test.YtikandlenlhdkaaHlp2
namespace Go.Proofs.Ytikandlenlhdkaa.Pure
set_option linter.unusedVariables false
open Go.RowKit Go.Proofs.Ytikandlenlhdkaa.PFnBits Go.Proofs.YtikandlenlhdkaaW.PrintWords Go.Proofs.YtikandlenlhdkaaW.PrintLast Go.Proofs.YtikandlenlhdkaaW.PrintMore Go.Proofs.Ytikandlenlhdkaa.Hlp
namespace FB
/-- What both say. -/
def bitOf (l : List Int) (i : Int) : Bool := decide (l.length ≤ 2048 ∧ 0 ≤ i ∧ i < 8 * l.length) && ((rd l (i / 8) / 2 ^ (i % 8).toNat) % 2 == 1)
theorem half_ev (n : Nat) : ∀ x : Int, 0 ≤ x → x ≤ 255 → n < 8 → Ev (fun k => spec_BitGet.l0 k x (n : Int)) ((x / 2 ^ n) % 2 == 1) := by
  induction n with
  | zero =>
    intro x h0 h1 _
    refine Ev.step (f := fun _ => some ((x / 2 ^ 0) % 2 == 1)) (fun k => ?_) (Ev.now _)
    simp only [spec_BitGet.l0]; rw [if_neg (by omega), Int.tmod_eq_emod_of_nonneg h0]; simp
  | succ n ih =>
    intro x h0 h1 hn
    refine Ev.step (f := fun k => spec_BitGet.l0 k (x / 2) (n : Int)) (fun k => ?_) ?_
    · simp only [spec_BitGet.l0]
      rw [if_pos (by omega), w64 (by omega) (by omega), Int.tdiv_eq_ediv_of_nonneg h0, show (x / 2) % 256 = x / 2 by omega]
      congr 1; omega
    · have h := ih (x / 2) (by omega) (by omega) (by omega)
      have e : x / 2 / 2 ^ n = x / 2 ^ (n + 1) := by
        rw [Int.ediv_ediv_of_nonneg (by omega), Int.pow_succ, Int.mul_comm]
      rwa [e] at h
theorem specBit_ev (l : List Int) (i : Int) (hb : ∀ x ∈ l, 0 ≤ x ∧ x ≤ 255) (hl : l.length ≤ 281474976710656) : Ev (fun k => spec_BitGet.f k l i) (bitOf l i) := by
  have hj : ∀ k b, spec_BitGet.j0 (k + 1) l i b = if b = true then (some false) else (if 0 ≤ (wrap64 (Int.tdiv i 8)) then (if (wrap64 (Int.tdiv i 8)) < (l.length : Int) then (spec_BitGet.l0 k (rd l (wrap64 (Int.tdiv i 8))) (Int.tmod i 8)) else (none)) else (none)) := fun _ _ => rfl
  by_cases h1 : (l.length : Int) > 2048
  · have : bitOf l i = false := by unfold bitOf; rw [decide_eq_false (by omega)]; rfl
    rw [this]
    refine Ev.step (f := fun _ => some false) (fun k => ?_) (Ev.now _)
    unfold spec_BitGet.f; rw [if_pos h1, hj, if_pos rfl]
  by_cases h2 : i < 0
  · have : bitOf l i = false := by unfold bitOf; rw [decide_eq_false (by omega)]; rfl
    rw [this]
    refine Ev.step (f := fun _ => some false) (fun k => ?_) (Ev.now _)
    unfold spec_BitGet.f; rw [if_neg h1, if_pos h2, hj, if_pos rfl]
  have w : wrap64 (8 * (l.length : Int)) = 8 * (l.length : Int) := w64 (by omega) (by omega)
  by_cases h3 : i ≥ 8 * (l.length : Int)
  · have : bitOf l i = false := by unfold bitOf; rw [decide_eq_false (by omega)]; rfl
    rw [this]
    refine Ev.step (f := fun _ => some false) (fun k => ?_) (Ev.now _)
    unfold spec_BitGet.f; rw [if_neg h1, if_neg h2, w, hj, if_pos (decide_eq_true h3)]
  · have hd : wrap64 (Int.tdiv i 8) = i / 8 := by rw [Int.tdiv_eq_ediv_of_nonneg (by omega)]; exact w64 (by omega) (by omega)
    have hm : Int.tmod i 8 = ((i % 8).toNat : Int) := by rw [Int.tmod_eq_emod_of_nonneg (by omega)]; omega
    have hr := hb _ (rd_mem (l := l) (i := i / 8) (by omega) (by omega))
    have : bitOf l i = ((rd l (i / 8) / 2 ^ (i % 8).toNat) % 2 == 1) := by unfold bitOf; rw [decide_eq_true (by omega)]; rfl
    rw [this]
    refine Ev.step (f := fun k => spec_BitGet.l0 k (rd l (i / 8)) ((i % 8).toNat : Int)) (fun k => ?_) (half_ev _ _ hr.1 hr.2 (by omega))
    unfold spec_BitGet.f; rw [if_neg h1, if_neg h2, w, hj, if_neg (by simpa using h3), hd, hm, if_pos (by omega), if_pos (by omega)]
theorem implBit (l : List Int) (i : Int) (hb : ∀ x ∈ l, 0 ≤ x ∧ x ≤ 255) (hl : l.length ≤ 281474976710656) : impl_BitGet.f l i = some (bitOf l i) := by
  unfold impl_BitGet.f impl_bitlen.f
  by_cases h2 : i ≥ 0
  rotate_left
  · have : bitOf l i = false := by unfold bitOf; rw [decide_eq_false (by omega)]; rfl
    rw [if_neg h2, this]
  rw [if_pos h2]
  by_cases h1 : (l.length : Int) > 2048
  · have : bitOf l i = false := by unfold bitOf; rw [decide_eq_false (by omega)]; rfl
    rw [if_pos h1, this]; simp only [Option.bind_some]; rw [if_neg (by omega)]
  rw [if_neg h1, w64 (by omega) (by omega)]; simp only [Option.bind_some]
  by_cases h3 : i < (l.length : Int) * 8
  rotate_left
  · have : bitOf l i = false := by unfold bitOf; rw [decide_eq_false (by omega)]; rfl
    rw [if_neg h3, this]
  have hd : wrap64 (Int.tdiv i 8) = i / 8 := by rw [Int.tdiv_eq_ediv_of_nonneg (by omega)]; exact w64 (by omega) (by omega)
  have hm : Int.tmod i 8 = ((i % 8).toNat : Int) := by rw [Int.tmod_eq_emod_of_nonneg (by omega)]; omega
  have hr := hb _ (rd_mem (l := l) (i := i / 8) (by omega) (by omega))
  have : bitOf l i = ((rd l (i / 8) / 2 ^ (i % 8).toNat) % 2 == 1) := by unfold bitOf; rw [decide_eq_true (by omega)]; rfl
  have hp : (0 : Int) < 2 ^ (i % 8).toNat := Int.pow_pos (by decide)
  have hs : shr .u8 (rd l (i / 8)) ((i % 8).toNat : Int) = rd l (i / 8) / 2 ^ (i % 8).toNat := by
    unfold shr; rw [Int.toNat_natCast, Nat.min_eq_left (by simp only [IntKind.bits]; omega)]
  have hq : rd l (i / 8) / 2 ^ (i % 8).toNat ≤ rd l (i / 8) := Int.ediv_le_self _ hr.1
  rw [if_pos h3, hd, hm, if_pos (by omega), if_pos (by omega), if_pos (by omega), hs, u8_and1 _ (Int.ediv_nonneg hr.1 (Int.le_of_lt hp)) (by omega), this]
def blen (l : List Int) : Int := if (l.length : Int) > 2048 then 0 else 8 * l.length
theorem blen_bd (l : List Int) : 0 ≤ blen l ∧ blen l ≤ 16384 := by unfold blen; split <;> omega
theorem bitlen_eq (l : List Int) (hl : l.length ≤ 281474976710656) : impl_bitlen.f l = some (blen l) := by
  unfold impl_bitlen.f blen; split
  · rfl
  · rw [w64 (by omega) (by omega), Int.mul_comm]
theorem within_eq (l : List Int) (a b : Int) (hl : l.length ≤ 281474976710656) : spec_l8Within.f l a b = some (max 0 a, min (blen l) b) := by
  unfold spec_l8Within.f blen mx mn
  by_cases h : (l.length : Int) > 2048
  · rw [if_pos h, if_pos h]; congr 2 <;> (split <;> omega)
  · rw [if_neg h, if_neg h, w64 (by omega) (by omega)]; congr 2 <;> (split <;> omega)
theorem mn_eq (a b : Int) : mn a b = min a b := by unfold mn; split <;> omega
theorem mx_eq (a b : Int) : mx a b = max a b := by unfold mx; split <;> omega
theorem count_loops (l : List Int) (b : Int) (hb : ∀ x ∈ l, 0 ≤ x ∧ x ≤ 255) (hl : l.length ≤ 281474976710656) (d : Nat) : ∀ i n : Int, 0 ≤ i → i ≤ 9223372036854775807 → 0 ≤ n → n + d ≤ 9223372036854775807 → (min (blen l) b - i).toNat = d →
    ∃ r, Ev (fun k => spec_BitCount.l0 k l (min (blen l) b) n i) r ∧ Ev (fun k => impl_BitCount.l0 k l b n i) r ∧ r = n + (((List.range d).filter (fun j : Nat => bitOf l (i + j))).length : Int) := by
  have hbl := blen_bd l
  induction d with
  | zero =>
    intro i n h0 h1 _ _ hd
    have hlt : ¬ i < min (blen l) b := by omega
    refine ⟨n, ?_, ?_, by simp⟩
    · exact Ev.step (f := fun _ => some n) (fun k => by simp only [spec_BitCount.l0]; rw [if_neg hlt]) (Ev.now _)
    · exact Ev.step (f := fun _ => some n) (fun k => by simp only [impl_BitCount.l0]; rw [bitlen_eq l hl]; simp only [Option.bind_some]; rw [mn_eq, if_neg (by omega)]) (Ev.now _)
  | succ d ih =>
    intro i n h0 h1 hn0 hn1 hd
    have hlt : i < min (blen l) b := by omega
    have hi := implBit l i hb hl
    have hs := specBit_ev l i hb hl
    have hc : ((List.range (d + 1)).filter (fun j : Nat => bitOf l (i + j))).length = (if bitOf l i = true then 1 else 0) + ((List.range d).filter (fun j : Nat => bitOf l (i + 1 + j))).length := by
      rw [List.range_succ_eq_map, List.filter_cons]
      have : ((List.range d).map Nat.succ).filter (fun j : Nat => bitOf l (i + j)) = ((List.range d).filter (fun j : Nat => bitOf l (i + 1 + j))).map Nat.succ := by
        rw [List.filter_map]; congr 1
        apply List.filter_congr; intro x _; simp only [Function.comp]; congr 1; omega
      rw [this, show i + ((0 : Nat) : Int) = i by omega]
      split <;> simp <;> omega
    cases hbit : bitOf l i with
    | true =>
      rw [hbit] at hi hs hc
      obtain ⟨r, h2, h3, h4⟩ := ih (i + 1) (n + 1) (by omega) (by omega) (by omega) (by omega) (by omega)
      refine ⟨r, ?_, ?_, by rw [h4, hc]; simp; omega⟩
      · refine Ev.step (f := fun k => (spec_BitGet.f k l i).bind fun t111 => (if t111 = true then (spec_BitCount.l0 k l (min (blen l) b) (wrap64 (n + 1)) (wrap64 (i + 1))) else (spec_BitCount.l0 k l (min (blen l) b) n (wrap64 (i + 1))))) (fun k => by simp only [spec_BitCount.l0]; rw [if_pos hlt]) (hs.bind ?_)
        exact Ev.congr (fun k => by rw [if_pos rfl, w64 (by omega) (by omega), w64 (by omega) (by omega)]) h2
      · exact Ev.step (f := fun k => impl_BitCount.l0 k l b (n + 1) (i + 1)) (fun k => by
          simp only [impl_BitCount.l0]; rw [bitlen_eq l hl]; simp only [Option.bind_some]; rw [mn_eq, if_pos (by omega), hi]; simp only [Option.bind_some]; rw [if_pos trivial, w64 (by omega) (by omega), w64 (by omega) (by omega)]) h3
    | false =>
      rw [hbit] at hi hs hc
      obtain ⟨r, h2, h3, h4⟩ := ih (i + 1) n (by omega) (by omega) (by omega) (by omega) (by omega)
      refine ⟨r, ?_, ?_, by rw [h4, hc]; simp⟩
      · refine Ev.step (f := fun k => (spec_BitGet.f k l i).bind fun t111 => (if t111 = true then (spec_BitCount.l0 k l (min (blen l) b) (wrap64 (n + 1)) (wrap64 (i + 1))) else (spec_BitCount.l0 k l (min (blen l) b) n (wrap64 (i + 1))))) (fun k => by simp only [spec_BitCount.l0]; rw [if_pos hlt]) (hs.bind ?_)
        exact Ev.congr (fun k => by rw [if_neg (by simp), w64 (by omega) (by omega)]) h2
      · exact Ev.step (f := fun k => impl_BitCount.l0 k l b n (i + 1)) (fun k => by
          simp only [impl_BitCount.l0]; rw [bitlen_eq l hl]; simp only [Option.bind_some]; rw [mn_eq, if_pos (by omega), hi]; simp only [Option.bind_some]; rw [if_neg (by simp), w64 (by omega) (by omega)]) h3
theorem both (l : List Int) (a b : Int) (hb : ∀ x ∈ l, 0 ≤ x ∧ x ≤ 255) (hl : l.length ≤ 281474976710656) (ha : a ≤ 9223372036854775807) : ∃ r, Ev (fun k => spec_BitCount.f k l a b) r ∧ Ev (fun k => impl_BitCount.f k l a b) r := by
  have hbl := blen_bd l
  obtain ⟨r, h1, h2, _⟩ := count_loops l b hb hl _ (max 0 a) 0 (by omega) (by omega) (by omega) (by omega) rfl
  refine ⟨r, ?_, ?_⟩
  · exact Ev.congr (fun k => by unfold spec_BitCount.f; rw [within_eq l a b hl]; rfl) h1
  · exact Ev.congr (fun k => by unfold impl_BitCount.f; rw [mx_eq, show max a 0 = max 0 a by omega]) h2
/-- The byte with its bit put. -/
def nb (b : Int) (s : Nat) (v : Bool) : Int := if (b / 2 ^ s) % 2 = 1 then (if v = true then b else b - 2 ^ s) else (if v = true then b + 2 ^ s else b)
theorem nb_all : ∀ b ∈ List.range 256, ∀ s ∈ List.range 8, bits .andNot .u8 (b : Int) (shl .u8 1 (s : Int)) = nb (b : Int) s false ∧ bits .or .u8 (nb (b : Int) s false) (shl .u8 1 (s : Int)) = nb (b : Int) s true ∧
    (((b : Int) / 2 ^ s) % 2 = 1 → ((b : Int) - 2 ^ s) % 256 = nb (b : Int) s false) ∧ (¬ ((b : Int) / 2 ^ s) % 2 = 1 → ((b : Int) + 2 ^ s) % 256 = nb (b : Int) s true) := by decide +kernel
theorem nb_at (b : Int) (s : Nat) (h0 : 0 ≤ b) (h1 : b ≤ 255) (hs : s < 8) : bits .andNot .u8 b (shl .u8 1 (s : Int)) = nb b s false ∧ bits .or .u8 (nb b s false) (shl .u8 1 (s : Int)) = nb b s true ∧
    ((b / 2 ^ s) % 2 = 1 → (b - 2 ^ s) % 256 = nb b s false) ∧ (¬ (b / 2 ^ s) % 2 = 1 → (b + 2 ^ s) % 256 = nb b s true) := by
  obtain ⟨n, rfl⟩ := Int.eq_ofNat_of_zero_le h0
  exact nb_all n (List.mem_range.2 (by omega)) s (List.mem_range.2 hs)
def putBit (l : List Int) (i : Int) (v : Bool) : List Int := if l.length ≤ 2048 ∧ 0 ≤ i ∧ i < 8 * l.length then l.set (i / 8).toNat (nb (rd l (i / 8)) (i % 8).toNat v) else []
theorem put_len (l : List Int) (i : Int) (v : Bool) : (putBit l i v).length ≤ 2048 := by
  unfold putBit; split
  · rw [List.length_set]; omega
  · simp
theorem set_same (l : List Int) (j : Int) (h0 : 0 ≤ j) (h1 : j < l.length) : l.set j.toNat (rd l j) = l := by
  obtain ⟨n, rfl⟩ := Int.eq_ofNat_of_zero_le h0
  rw [rd_nat l n (by omega), Int.toNat_natCast, List.set_getElem_self]
theorem rd_set (l : List Int) (j : Int) (x : Int) (h0 : 0 ≤ j) (h1 : j < l.length) : rd (l.set j.toNat x) j = x := by
  obtain ⟨n, rfl⟩ := Int.eq_ofNat_of_zero_le h0
  rw [rd_nat _ n (by simp; omega), List.getElem_set]; simp
theorem implPut_ev (l : List Int) (i : Int) (v : Bool) (hb : ∀ x ∈ l, 0 ≤ x ∧ x ≤ 255) (hl : l.length ≤ 1048576) : Ev (fun k => impl_BitPut.f k l i v) (putBit l i v) := by
  have jt : Ev (fun k => impl_BitPut.j0 k l i v true) [] := Ev.step (f := fun _ => some []) (fun k => by simp only [impl_BitPut.j0]; rw [if_pos trivial]) (Ev.now _)
  by_cases h2 : i < 0
  · rw [show putBit l i v = [] by unfold putBit; rw [if_neg (by omega)]]
    exact Ev.congr (fun k => by unfold impl_BitPut.f; rw [if_pos h2]) jt
  by_cases h1 : (l.length : Int) > 2048
  · rw [show putBit l i v = [] by unfold putBit; rw [if_neg (by omega)]]
    exact Ev.congr (fun k => by unfold impl_BitPut.f impl_bitlen.f; rw [if_neg h2, if_pos h1, Option.bind_some, decide_eq_true (by omega)]) jt
  have w : wrap64 ((l.length : Int) * 8) = (l.length : Int) * 8 := w64 (by omega) (by omega)
  by_cases h3 : i ≥ (l.length : Int) * 8
  · rw [show putBit l i v = [] by unfold putBit; rw [if_neg (by omega)]]
    exact Ev.congr (fun k => by unfold impl_BitPut.f impl_bitlen.f; rw [if_neg h2, if_neg h1, Option.bind_some, w, decide_eq_true h3]) jt
  have hd : wrap64 (Int.tdiv i 8) = i / 8 := by rw [Int.tdiv_eq_ediv_of_nonneg (by omega)]; exact w64 (by omega) (by omega)
  have hm : Int.tmod i 8 = ((i % 8).toNat : Int) := by rw [Int.tmod_eq_emod_of_nonneg (by omega)]; omega
  have hr := hb _ (rd_mem (l := l) (i := i / 8) (by omega) (by omega))
  have hs : (i % 8).toNat < 8 := by omega
  obtain ⟨n1, n2, _, _⟩ := nb_at _ _ hr.1 hr.2 hs
  have hp : putBit l i v = l.set (i / 8).toNat (nb (rd l (i / 8)) (i % 8).toNat v) := by unfold putBit; rw [if_pos (by omega)]
  rw [hp]
  refine Ev.congr (fun k => by unfold impl_BitPut.f impl_bitlen.f; rw [if_neg h2, if_neg h1, Option.bind_some, w, decide_eq_false h3]) ?_
  refine Ev.step (f := fun _ => some (l.set (i / 8).toNat (nb (rd l (i / 8)) (i % 8).toNat v))) (fun k => ?_) (Ev.now _)
  simp only [impl_BitPut.j0, impl_cp.f, Option.bind_some]
  rw [if_neg (by decide), if_pos (by simp; omega), hd, hm, Option.bind_some, List.nil_append, if_pos (by omega), if_pos (by omega), if_pos (by omega), n1, rd_set l _ _ (by omega) (by omega), n2, List.set_set]
  cases v <;> rfl
/-- The state of a reader: the bytes, how many draws there were. -/
def okS (c : List Int) (a : Int) : Prop := c.length ≤ 1048576 ∧ (∀ x ∈ c, 0 ≤ x ∧ x ≤ 255) ∧ 0 ≤ a
theorem next_ev (c : List Int) (a z n : Int) (hc : c.length ≤ 1048576) (hb : ∀ x ∈ c, 0 ≤ x ∧ x ≤ 255) (h0 : 0 ≤ a) (h1 : a ≤ 1000000) (hn : n ≤ 1000000) : ∃ v, spec_l1Next.f c a z n = some (v, a + 1, z) ∧ 0 ≤ v ∧ (0 < n → v < n) ∧ (n < 1 → v = 0) := by
  unfold spec_l1Next.f
  have w1 : wrap64 (a + 1) = a + 1 := w64 (by omega) (by omega)
  have w2 : wrap64 (a + 1 - 1) = a := by rw [w64 (by omega) (by omega)]; omega
  rw [w1, w2, w1]
  by_cases c1 : n < 1
  · exact ⟨0, by rw [if_pos c1], by omega, fun h => by omega, fun _ => rfl⟩
  rw [if_neg c1]
  have modk : ∀ x : Int, 0 ≤ x → 0 ≤ Int.tmod x n ∧ (0 < n → Int.tmod x n < n) := fun x hx => by
    rw [Int.tmod_eq_emod_of_nonneg hx]
    exact ⟨Int.emod_nonneg _ (by omega), fun h => Int.emod_lt_of_pos _ h⟩
  by_cases c2 : (c.length : Int) = 0
  · have := modk (wrap64 (a * 7)) (by rw [w64 (by omega) (by omega)]; omega)
    exact ⟨_, by rw [if_pos c2, if_neg (by omega)], this.1, this.2, fun h => by omega⟩
  rw [if_neg c2]
  have hk : 0 < (c.length : Int) := by omega
  have m1 : 0 ≤ Int.tmod a (c.length : Int) ∧ Int.tmod a (c.length : Int) < (c.length : Int) := by
    rw [Int.tmod_eq_emod_of_nonneg h0]
    exact ⟨Int.emod_nonneg _ (by omega), Int.emod_lt_of_pos _ hk⟩
  have w3 : wrap64 (a + 1) = a + 1 := w1
  have m2 : 0 ≤ Int.tmod (a + 1) (c.length : Int) ∧ Int.tmod (a + 1) (c.length : Int) < (c.length : Int) := by
    rw [Int.tmod_eq_emod_of_nonneg (by omega)]
    exact ⟨Int.emod_nonneg _ (by omega), Int.emod_lt_of_pos _ hk⟩
  have r1 := hb _ (rd_mem m1.1 m1.2)
  have r2 := hb _ (rd_mem m2.1 m2.2)
  have d1 : 0 ≤ Int.tdiv a (c.length : Int) ∧ Int.tdiv a (c.length : Int) ≤ a := by
    rw [Int.tdiv_eq_ediv_of_nonneg h0]
    refine ⟨Int.ediv_nonneg h0 (by omega), Int.ediv_le_self _ h0⟩
  obtain ⟨y1, hy1⟩ : ∃ y, rd c (Int.tmod a (c.length : Int)) = y := ⟨_, rfl⟩
  obtain ⟨y2, hy2⟩ : ∃ y, rd c (Int.tmod (a + 1) (c.length : Int)) = y := ⟨_, rfl⟩
  obtain ⟨q, hq⟩ : ∃ y, Int.tdiv a (c.length : Int) = y := ⟨_, rfl⟩
  rw [hy1] at r1
  rw [hy2] at r2
  rw [hq] at d1
  rw [if_pos m1.1, if_pos m1.2, hy1, hq, hy2]
  have w4 : wrap64 y1 = y1 := w64 (by omega) (by omega)
  have w5 : wrap64 q = q := w64 (by omega) (by omega)
  have w6 : wrap64 (q * 37) = q * 37 := w64 (by omega) (by omega)
  have w7 : wrap64 (y1 + q * 37) = y1 + q * 37 := w64 (by omega) (by omega)
  rw [w4, w5, w6, w7]
  by_cases c3 : n > 200
  · have w8 : wrap64 ((y1 + q * 37) * 251) = (y1 + q * 37) * 251 := w64 (by omega) (by omega)
    have w9 : wrap64 (wrap64 y2 * 13) = y2 * 13 := by rw [w64 (x := y2) (by omega) (by omega), w64 (by omega) (by omega)]
    have wa : wrap64 ((y1 + q * 37) * 251 + y2 * 13) = (y1 + q * 37) * 251 + y2 * 13 := w64 (by omega) (by omega)
    have wb : wrap64 ((y1 + q * 37) * 251 + y2 * 13 + a) = (y1 + q * 37) * 251 + y2 * 13 + a := w64 (by omega) (by omega)
    rw [if_pos c3, if_pos m2.1, if_pos m2.2, if_neg (by omega), w8, w9, wa, wb]
    have := modk ((y1 + q * 37) * 251 + y2 * 13 + a) (by omega)
    exact ⟨_, rfl, this.1, this.2, fun h => by omega⟩
  · rw [if_neg c3, if_neg (by omega)]
    have := modk (y1 + q * 37) (by omega)
    exact ⟨_, rfl, this.1, this.2, fun h => by omega⟩
theorem chance_ev (c : List Int) (a z n : Int) (hc : c.length ≤ 1048576) (hb : ∀ x ∈ c, 0 ≤ x ∧ x ≤ 255) (h0 : 0 ≤ a) (h1 : a ≤ 1000000) (hn : n ≤ 1000000) : ∃ b, spec_l1Chance.f c a z n = some (b, a + 1, z) := by
  obtain ⟨v, h, _⟩ := next_ev c a z n hc hb h0 h1 hn
  exact ⟨_, by unfold spec_l1Chance.f; rw [h, Option.bind_some]⟩
theorem source_ev (c : List Int) (hc : c.length ≤ 1048576) : ∃ z, spec_l1Source.f c = some (c, 0, z) ∧ 0 ≤ z ∧ z ≤ 12 := by
  unfold spec_l1Source.f
  by_cases h : (wrap64 ((c.length : Int) / 16)) > 12
  · exact ⟨12, by rw [if_pos h], by omega, by omega⟩
  · rw [w64 (by omega) (by omega)] at h
    exact ⟨(c.length : Int) / 16, by rw [w64 (by omega) (by omega), if_neg h], by omega, by omega⟩
theorem on_bit (l : List Int) (i : Nat) (hb : ∀ x ∈ l, 0 ≤ x ∧ x ≤ 255) (hl : l.length ≤ 281474976710656) : brOn l i = bitOf l (i : Int) := by
  unfold brOn; rw [implBit l _ hb hl]; rfl
theorem rd35 (x : List S35) (i : Nat) (h : i < x.length) : rd_T35 x (i : Int) = x[i] := by unfold rd_T35; simp [h]
/-- The first bit that is off. -/
theorem first_ev (l : List Int) (b : Int) (hb : ∀ x ∈ l, 0 ≤ x ∧ x ≤ 255) (hl : l.length ≤ 281474976710656) (d : Nat) : ∀ i : Int, 0 ≤ i → i ≤ 9223372036854775807 → (min (blen l) b - i).toNat = d →
    ∃ r, Ev (fun k => impl_BitFirst.l0 k l b i) r ∧ ((r = -1 ∧ ∀ j, i ≤ j → j < min (blen l) b → bitOf l j = true) ∨ (i ≤ r ∧ r < min (blen l) b ∧ bitOf l r = false ∧ ∀ j, i ≤ j → j < r → bitOf l j = true)) := by
  have hbl := blen_bd l
  induction d with
  | zero =>
    intro i h0 h1 hd
    refine ⟨-1, ?_, .inl ⟨rfl, fun j h1 h2 => by omega⟩⟩
    exact Ev.step (f := fun _ => some (-1)) (fun k => by simp only [impl_BitFirst.l0]; rw [bitlen_eq l hl]; simp only [Option.bind_some]; rw [mn_eq, if_neg (by omega)]) (Ev.now _)
  | succ d ih =>
    intro i h0 h1 hd
    have hlt : i < min (blen l) b := by omega
    have hi := implBit l i hb hl
    cases hbit : bitOf l i with
    | true =>
      rw [hbit] at hi
      obtain ⟨r, h3, h4⟩ := ih (i + 1) (by omega) (by omega) (by omega)
      refine ⟨r, ?_, ?_⟩
      · exact Ev.step (f := fun k => impl_BitFirst.l0 k l b (i + 1)) (fun k => by
          simp only [impl_BitFirst.l0]; rw [bitlen_eq l hl]; simp only [Option.bind_some]; rw [mn_eq, if_pos (by omega), hi]; simp only [Option.bind_some]; rw [if_pos trivial, w64 (by omega) (by omega)]) h3
      · rcases h4 with ⟨e, h5⟩ | ⟨h5, h6, h7, h8⟩
        · exact .inl ⟨e, fun j hj1 hj2 => by rcases Int.lt_or_eq_of_le hj1 with h | h; exact h5 j (by omega) hj2; rw [← h]; exact hbit⟩
        · exact .inr ⟨by omega, h6, h7, fun j hj1 hj2 => by rcases Int.lt_or_eq_of_le hj1 with h | h; exact h8 j (by omega) hj2; rw [← h]; exact hbit⟩
    | false =>
      rw [hbit] at hi
      refine ⟨i, ?_, .inr ⟨by omega, hlt, hbit, fun j h1 h2 => by omega⟩⟩
      exact Ev.step (f := fun _ => some i) (fun k => by
          simp only [impl_BitFirst.l0]; rw [bitlen_eq l hl]; simp only [Option.bind_some]; rw [mn_eq, if_pos (by omega), hi]; simp) (Ev.now i)
/-- What the runs of n bits from lo on are. -/
structure Good (l : List Int) (lo n : Nat) (R : List S35) : Prop where
  all : ∀ x ∈ R, (lo : Int) ≤ x.f0 ∧ 1 ≤ x.f1 ∧ x.f0 + x.f1 ≤ ((lo + n : Nat) : Int) ∧ ∀ j : Int, x.f0 ≤ j → j < x.f0 + x.f1 → bitOf l j = false
  apart : R.Pairwise (fun x y => x.f0 + x.f1 < y.f0)
  sum : (R.map (·.f1)).sum = (((List.range n).filter (fun j : Nat => !bitOf l ((lo : Int) + j))).length : Int)
  none_ : R = [] → ∀ j : Int, (lo : Int) ≤ j → j < ((lo + n : Nat) : Int) → bitOf l j = true
  head_ : ∀ x, R.head? = some x → ∀ j : Int, (lo : Int) ≤ j → j < x.f0 → bitOf l j = true
theorem good (l : List Int) (lo : Nat) (hb : ∀ x ∈ l, 0 ≤ x ∧ x ≤ 255) (hl : l.length ≤ 281474976710656) : ∀ n, Good l lo n (brUp l lo n)
  | 0 => ⟨fun x h => by simp [brUp] at h, by simp [brUp], by simp [brUp], fun _ j h1 h2 => by omega, fun x h => by simp [brUp] at h⟩
  | n + 1 => by
    have ih := good l lo hb hl n
    have hcnt : (((List.range (n + 1)).filter (fun j : Nat => !bitOf l ((lo : Int) + j))).length : Int) = (((List.range n).filter (fun j : Nat => !bitOf l ((lo : Int) + j))).length : Int) + (if bitOf l ((lo + n : Nat) : Int) = true then 0 else 1) := by
      rw [List.range_succ, List.filter_append, List.length_append]
      have e : (lo : Int) + (n : Int) = ((lo + n : Nat) : Int) := by omega
      by_cases h : bitOf l ((lo + n : Nat) : Int) = true
      · rw [if_pos h, List.filter_cons, e, h, Bool.not_true, if_neg (by simp), List.filter_nil, List.length_nil]; omega
      · rw [if_neg h, List.filter_cons, e, Bool.eq_false_iff.2 h, Bool.not_false, if_pos rfl, List.filter_nil, List.length_singleton]; omega
    simp only [brUp]
    generalize brUp l lo n = R at ih
    unfold brStep
    rw [on_bit l _ hb hl]
    by_cases hbit : bitOf l ((lo + n : Nat) : Int) = true
    · rw [if_pos hbit]
      rw [if_pos hbit] at hcnt
      refine ⟨fun x h => ?_, ih.apart, by rw [hcnt, ih.sum]; omega, fun h j h1 h2 => ?_, ih.head_⟩
      · obtain ⟨p1, p2, p3, p4⟩ := ih.all x h
        exact ⟨p1, p2, by omega, p4⟩
      · by_cases e : j = ((lo + n : Nat) : Int)
        · rw [e]; exact hbit
        · exact ih.none_ h j h1 (by omega)
    · rw [if_neg hbit]
      rw [if_neg hbit] at hcnt
      have hoff : bitOf l ((lo + n : Nat) : Int) = false := by simpa using hbit
      cases hg : R.getLast? with
      | none =>
        obtain rfl := List.getLast?_eq_none_iff.1 hg
        refine ⟨fun x h => ?_, by simp, by rw [hcnt]; have := ih.sum; simp at this ⊢; omega, fun h => by simp at h, fun x h j h1 h2 => ?_⟩
        · simp only [List.nil_append, List.mem_singleton] at h
          subst h
          exact ⟨by simp only; omega, by simp only; omega, by simp only; omega, fun j h1 h2 => by simp only at h1 h2; rw [show j = ((lo + n : Nat) : Int) by omega]; exact hoff⟩
        · simp only [List.nil_append, List.head?_cons, Option.some.injEq] at h
          subst h
          exact ih.none_ rfl j h1 (by simpa using h2)
      | some x =>
        obtain ⟨ys, rfl⟩ := List.getLast?_eq_some_iff.1 hg
        obtain ⟨p1, p2, p3, p4⟩ := ih.all x (by simp)
        have hap := List.pairwise_append.1 ih.apart
        simp only
        by_cases c : x.f0 + x.f1 = ((lo + n : Nat) : Int)
        · rw [if_pos c, List.dropLast_concat]
          refine ⟨fun y h => ?_, ?_, ?_, fun h => by simp at h, fun y h j h1 h2 => ?_⟩
          · rcases List.mem_append.1 h with h | h
            · obtain ⟨q1, q2, q3, q4⟩ := ih.all y (List.mem_append.2 (.inl h))
              exact ⟨q1, q2, by omega, q4⟩
            · simp only [List.mem_singleton] at h
              subst h
              refine ⟨p1, by simp only; omega, by simp only; omega, fun j h1 h2 => ?_⟩
              simp only at h1 h2
              by_cases e : j = ((lo + n : Nat) : Int)
              · rw [e]; exact hoff
              · exact p4 j h1 (by omega)
          · refine List.pairwise_append.2 ⟨hap.1, by simp, fun y hy z hz => ?_⟩
            simp only [List.mem_singleton] at hz
            subst hz
            exact hap.2.2 y hy x (by simp)
          · have := ih.sum
            rw [hcnt, ← this]
            simp only [List.map_append, List.sum_append, List.map_cons, List.map_nil, List.sum_cons, List.sum_nil]
            omega
          · refine ih.head_ (if ys = [] then x else y) ?_ j h1 ?_
            · cases ys with
              | nil => simp
              | cons u v => simp at h ⊢; exact h
            · cases ys with
              | nil => simp at h; subst h; simpa using h2
              | cons u v => simpa using h2
        · rw [if_neg c]
          refine ⟨fun y h => ?_, ?_, ?_, fun h => by simp at h, fun y h j h1 h2 => ?_⟩
          · rcases List.mem_append.1 h with h | h
            · obtain ⟨q1, q2, q3, q4⟩ := ih.all y h
              exact ⟨q1, q2, by omega, q4⟩
            · simp only [List.mem_singleton] at h
              subst h
              exact ⟨by simp only; omega, by simp only; omega, by simp only; omega, fun j h1 h2 => by simp only at h1 h2; rw [show j = ((lo + n : Nat) : Int) by omega]; exact hoff⟩
          · refine List.pairwise_append.2 ⟨ih.apart, by simp, fun y hy z hz => ?_⟩
            simp only [List.mem_singleton] at hz
            subst hz
            rcases List.mem_append.1 hy with hy | hy
            · have := hap.2.2 y hy x (by simp)
              simp only; omega
            · simp only [List.mem_singleton] at hy
              subst hy
              simp only; omega
          · have := ih.sum
            rw [hcnt, ← this]
            simp only [List.map_append, List.sum_append, List.map_cons, List.map_nil, List.sum_cons, List.sum_nil]
            omega
          · refine ih.head_ y ?_ j h1 h2
            cases ys with
            | nil => simp at h ⊢; exact h
            | cons u v => simp at h ⊢; exact h
theorem parts (f : Nat → Bool) : ∀ n, ((List.range n).filter f).length + ((List.range n).filter (fun j => !f j)).length = n
  | 0 => rfl
  | n + 1 => by
    have := parts f n
    rw [List.range_succ, List.filter_append, List.filter_append, List.length_append, List.length_append]
    cases h : f n <;> simp [h] <;> omega
/-- The law's two loops over the runs. -/
theorem inner (l : List Int) (a b : Int) (R : List S35) (fi lo hi off : Int) (i : Int) (x0 x1 : Int) (hb : ∀ x ∈ l, 0 ≤ x ∧ x ≤ 255) (hl : l.length ≤ 281474976710656) (h0 : 0 ≤ x0) (h1 : 1 ≤ x1) (h2 : x0 + x1 ≤ 16384) (hoff : ∀ j, x0 ≤ j → j < x0 + x1 → bitOf l j = false)
    (nx : Ev (fun k => laws_FnBits.l0 k l a b R fi lo hi (wrap64 (off + x1)) (wrap64 (x0 + x1)) (wrap64 (i + 1))) true) : ∀ (d : Nat) (j : Int), x0 ≤ j → (x0 + x1 - j).toNat = d → Ev (fun k => laws_FnBits.l1 k l a b R fi lo hi off i j x0 x1) true := by
  intro d
  have hw : wrap64 (x0 + x1) = x0 + x1 := w64 (by omega) (by omega)
  induction d with
  | zero =>
    intro j hj hd
    exact Ev.step (fun k => by rw [laws_FnBits.l1, hw, if_neg (by omega)]) (by rw [hw] at nx; exact nx)
  | succ d ih =>
    intro j hj hd
    have o := hoff j hj (by omega)
    have hs := specBit_ev l j hb hl
    have hi' := implBit l j hb hl
    rw [o] at hs hi'
    refine Ev.step (f := fun k => (spec_BitGet.f k l j).bind fun t220 => (if t220 = true then (some false) else ((impl_BitGet.f l j).bind fun t221 => (if t221 = true then (some false) else (laws_FnBits.l1 k l a b R fi lo hi off i (wrap64 (j + 1)) x0 x1))))) (fun k => by rw [laws_FnBits.l1, hw, if_pos (by omega)]) (hs.bind ?_)
    refine Ev.congr (fun k => by rw [if_neg (by simp), hi', Option.bind_some, if_neg (by simp), w64 (by omega) (by omega)]) (ih (j + 1) (by omega) (by omega))
theorem l0_first (k : Nat) (l : List Int) (a b : Int) (R : List S35) (fi lo hi off at_ i : Int) (x : S35) (hr : rd_T35 R i = x) (q1 : i < (R.length : Int)) (q0 : 0 ≤ i) (q2 : ¬ x.f1 < 1) (q4 : ¬ x.f0 < at_) (q3 : ¬ wrap64 (x.f0 + x.f1) > hi) (q5 : ¬ i > 0) : laws_FnBits.l0 (k + 1) l a b R fi lo hi off at_ i = laws_FnBits.j1 k l a b R fi lo hi off i false x.f0 x.f1 := by
  rw [laws_FnBits.l0, hr, if_pos q1, if_pos q0, if_neg q2, if_neg q4, if_neg q3, if_neg q5]
theorem l0_next (k : Nat) (l : List Int) (a b : Int) (R : List S35) (fi lo hi off at_ i : Int) (x : S35) (hr : rd_T35 R i = x) (q1 : i < (R.length : Int)) (q0 : 0 ≤ i) (q2 : ¬ x.f1 < 1) (q4 : ¬ x.f0 < at_) (q3 : ¬ wrap64 (x.f0 + x.f1) > hi) (q5 : i > 0) (q6 : (x.f0 == at_) = false) : laws_FnBits.l0 (k + 1) l a b R fi lo hi off at_ i = laws_FnBits.j1 k l a b R fi lo hi off i false x.f0 x.f1 := by
  rw [laws_FnBits.l0, hr, if_pos q1, if_pos q0, if_neg q2, if_neg q4, if_neg q3, if_pos q5, q6]
theorem outer (l : List Int) (a b : Int) (R : List S35) (fi lo hi : Int) (hb : ∀ x ∈ l, 0 ≤ x ∧ x ≤ 255) (hl : l.length ≤ 281474976710656) (hlo : 0 ≤ lo) (hhi : hi ≤ 16384) (hR : R.length ≤ 16384)
    (hall : ∀ x ∈ R, lo ≤ x.f0 ∧ 1 ≤ x.f1 ∧ x.f0 + x.f1 ≤ hi ∧ ∀ j : Int, x.f0 ≤ j → j < x.f0 + x.f1 → bitOf l j = false) (hap : R.Pairwise (fun x y => x.f0 + x.f1 < y.f0))
    (hT : ∀ at_ : Int, Ev (fun k => laws_FnBits.l0 k l a b R fi lo hi (R.map (·.f1)).sum at_ (R.length : Int)) true) : ∀ (d i : Nat) (off at_ : Int), i + d = R.length → off = ((R.take i).map (·.f1)).sum → 0 ≤ off → off ≤ 16384 * i → (i = 0 → at_ = lo) → (∀ h : 0 < i, ∀ h2 : i - 1 < R.length, at_ = R[i - 1].f0 + R[i - 1].f1) → Ev (fun k => laws_FnBits.l0 k l a b R fi lo hi off at_ (i : Int)) true := by
  intro d
  induction d with
  | zero =>
    intro i off at_ hi' ho _ _ _ _
    obtain rfl : i = R.length := by omega
    rw [ho, List.take_of_length_le (Nat.le_refl _)]
    exact hT at_
  | succ d ih =>
    intro i off at_ hi' ho ho1 ho2 hz hp
    have hlt : i < R.length := by omega
    have hx3 : ((R.take (i + 1)).map (·.f1)).sum = ((R.take i).map (·.f1)).sum + R[i].f1 := by
      rw [List.take_succ_eq_append_getElem hlt, List.map_append, List.sum_append]
      simp
    have hxm := hall R[i] (List.getElem_mem hlt)
    have hpw : ∀ h : 0 < i, R[i - 1].f0 + R[i - 1].f1 < R[i].f0 := fun h => List.pairwise_iff_getElem.1 hap (i - 1) i (by omega) hlt (by omega)
    have hr := rd35 R i hlt
    obtain ⟨x, hx⟩ : ∃ x, R[i] = x := ⟨_, rfl⟩
    have hlast : ∀ h : 0 < i + 1, ∀ h2 : i + 1 - 1 < R.length, x.f0 + x.f1 = R[i + 1 - 1].f0 + R[i + 1 - 1].f1 := fun h h2 => by
      have e : R[i + 1 - 1] = x := by rw [← hx]; rfl
      rw [e]
    rw [hx] at hx3 hxm hpw hr
    obtain ⟨p1, p2, p3, p4⟩ := hxm
    have hw : wrap64 ((i : Int) + 1) = ((i + 1 : Nat) : Int) := by rw [w64 (by omega) (by omega)]; rfl
    have b1 : off + x.f1 ≤ 16384 * ((i + 1 : Nat) : Int) := by clear hx3 ho hr; omega
    have b2 : 0 ≤ off + x.f1 := by clear hx3 ho hr; omega
    have b3 : off + x.f1 ≤ 9223372036854775807 := by
      have : (i : Int) ≤ 16384 := by clear hx3 ho hr; omega
      clear hx3 ho hr; omega
    have hwo : wrap64 (off + x.f1) = off + x.f1 := w64 (Int.le_trans (by decide) b2) b3
    have hwe : wrap64 (x.f0 + x.f1) = x.f0 + x.f1 := w64 (by clear hx3 ho hr; omega) (by clear hx3 ho hr; omega)
    have nx : Ev (fun k => laws_FnBits.l0 k l a b R fi lo hi (wrap64 (off + x.f1)) (wrap64 (x.f0 + x.f1)) (wrap64 ((i : Int) + 1))) true := by
      rw [hw, hwo, hwe]
      exact ih (i + 1) (off + x.f1) (x.f0 + x.f1) (by clear hx3 ho hr; omega) (by rw [hx3, ho]) b2 b1 (fun h => absurd h (Nat.succ_ne_zero i)) hlast
    have inn := inner l a b R fi lo hi off (i : Int) x.f0 x.f1 hb hl (Int.le_trans hlo p1) p2 (Int.le_trans p3 hhi) p4 nx _ x.f0 (Int.le_refl _) rfl
    have j1 : Ev (fun k => laws_FnBits.j1 k l a b R fi lo hi off (i : Int) false x.f0 x.f1) true := Ev.step (fun k => by rw [laws_FnBits.j1, if_neg (by simp)]) inn
    have q1 : (i : Int) < (R.length : Int) := Int.ofNat_lt.mpr hlt
    have q2 : ¬ x.f1 < 1 := Int.not_lt.mpr p2
    have q3 : ¬ x.f0 + x.f1 > hi := Int.not_lt.mpr p3
    rcases Nat.eq_zero_or_pos i with h | h
    · have hat := hz h
      have q4 : ¬ x.f0 < at_ := by rw [hat]; exact Int.not_lt.mpr p1
      have q5 : ¬ (i : Int) > 0 := by rw [h]; simp
      exact Ev.step (fun k => l0_first k l a b R fi lo hi off at_ (i : Int) x hr q1 (Int.natCast_nonneg _) q2 q4 (by rw [hwe]; exact q3) q5) j1
    · have hat := hp h (Nat.lt_of_le_of_lt (Nat.sub_le i 1) hlt)
      have hlt2 := hpw h
      rw [← hat] at hlt2
      have q4 : ¬ x.f0 < at_ := Int.not_lt.mpr (Int.le_of_lt hlt2)
      have q5 : (i : Int) > 0 := Int.ofNat_lt.mpr h
      exact Ev.step (fun k => l0_next k l a b R fi lo hi off at_ (i : Int) x hr q1 (Int.natCast_nonneg _) q2 q4 (by rw [hwe]; exact q3) q5 (beq_eq_false_iff_ne.mpr (fun e => by rw [e] at hlt2; exact Int.lt_irrefl _ hlt2))) j1
theorem nb_bits : ∀ b ∈ List.range 256, ∀ s ∈ List.range 8, ∀ t ∈ List.range 8, ((nb (b : Int) s true / 2 ^ t) % 2 == 1) = (if t = s then true else ((b : Int) / 2 ^ t) % 2 == 1) ∧ ((nb (b : Int) s false / 2 ^ t) % 2 == 1) = (if t = s then false else ((b : Int) / 2 ^ t) % 2 == 1) := by decide +kernel
theorem nb_back : ∀ b ∈ List.range 256, ∀ s ∈ List.range 8, (0 ≤ nb (b : Int) s true ∧ nb (b : Int) s true ≤ 255) ∧ (0 ≤ nb (b : Int) s false ∧ nb (b : Int) s false ≤ 255) ∧ ((((b : Int) / 2 ^ s) % 2 == 1) = false → nb (nb (b : Int) s true) s false = b) := by decide +kernel
theorem rd_set2 (l : List Int) (n m x : Int) (h0 : 0 ≤ n) (h1 : n < l.length) (h2 : 0 ≤ m) : rd (l.set n.toNat x) m = if m = n then x else rd l m := by
  obtain ⟨n, rfl⟩ := Int.eq_ofNat_of_zero_le h0
  obtain ⟨m, rfl⟩ := Int.eq_ofNat_of_zero_le h2
  unfold rd
  simp only [Int.toNat_natCast, List.getD_eq_getElem?_getD, List.getElem?_set]
  by_cases e : n = m
  · subst e; rw [if_pos rfl, if_pos rfl, if_pos (by omega)]; rfl
  · rw [if_neg e, if_neg (by omega)]
theorem put_is (l : List Int) (f : Int) (v : Bool) (hr : l.length ≤ 2048 ∧ 0 ≤ f ∧ f < 8 * l.length) : putBit l f v = l.set (f / 8).toNat (nb (rd l (f / 8)) (f % 8).toNat v) := by unfold putBit; rw [if_pos hr]
theorem byte_at (l : List Int) (f : Int) (hb : ∀ x ∈ l, 0 ≤ x ∧ x ≤ 255) (h0 : 0 ≤ f) (h1 : f < 8 * l.length) : ∃ c : Nat, c ∈ List.range 256 ∧ rd l (f / 8) = (c : Int) := by
  have h := hb _ (rd_mem (l := l) (i := f / 8) (by omega) (by omega))
  obtain ⟨c, hc⟩ := Int.eq_ofNat_of_zero_le h.1
  exact ⟨c, List.mem_range.2 (by omega), hc⟩
theorem put_bit (l : List Int) (f : Int) (v : Bool) (hb : ∀ x ∈ l, 0 ≤ x ∧ x ≤ 255) (hr : l.length ≤ 2048 ∧ 0 ≤ f ∧ f < 8 * l.length) (j : Int) : bitOf (putBit l f v) j = if j = f then v else bitOf l j := by
  rw [put_is l f v hr]
  unfold bitOf
  rw [List.length_set]
  by_cases hj : l.length ≤ 2048 ∧ 0 ≤ j ∧ j < 8 * l.length
  rotate_left
  · rw [decide_eq_false hj, if_neg (fun e : j = f => hj (by rw [e]; exact hr))]; rfl
  rw [decide_eq_true hj, Bool.true_and, Bool.true_and, rd_set2 l (f / 8) (j / 8) _ (by omega) (by omega) (by omega)]
  by_cases e8 : j / 8 = f / 8
  · rw [if_pos e8, e8]
    obtain ⟨c, hc, hcv⟩ := byte_at l f hb hr.2.1 hr.2.2
    rw [hcv]
    have hn := nb_bits c hc (f % 8).toNat (List.mem_range.2 (by omega)) (j % 8).toNat (List.mem_range.2 (by omega))
    have hv : ((nb (c : Int) (f % 8).toNat v / 2 ^ (j % 8).toNat) % 2 == 1) = (if (j % 8).toNat = (f % 8).toNat then v else ((c : Int) / 2 ^ (j % 8).toNat) % 2 == 1) := by cases v; exact hn.2; exact hn.1
    rw [hv]
    by_cases e : j = f
    · subst e; rw [if_pos rfl, if_pos rfl]
    · rw [if_neg e, if_neg (by omega)]
  · rw [if_neg e8, if_neg (fun e => e8 (by rw [e]))]
theorem put_bytes (l : List Int) (f : Int) (v : Bool) (hb : ∀ x ∈ l, 0 ≤ x ∧ x ≤ 255) (hr : l.length ≤ 2048 ∧ 0 ≤ f ∧ f < 8 * l.length) : ∀ x ∈ putBit l f v, 0 ≤ x ∧ x ≤ 255 := by
  rw [put_is l f v hr]
  intro x hx
  obtain ⟨c, hc, hcv⟩ := byte_at l f hb hr.2.1 hr.2.2
  rw [hcv] at hx
  have hn := nb_back c hc (f % 8).toNat (List.mem_range.2 (by omega))
  rcases List.mem_or_eq_of_mem_set hx with h | h
  · exact hb x h
  · rw [h]; cases v; exact hn.2.1; exact hn.1
theorem put_back (l : List Int) (f : Int) (hb : ∀ x ∈ l, 0 ≤ x ∧ x ≤ 255) (hr : l.length ≤ 2048 ∧ 0 ≤ f ∧ f < 8 * l.length) (ho : bitOf l f = false) : putBit (putBit l f true) f false = l := by
  have e1 := put_is l f true hr
  have hlen : (putBit l f true).length = l.length := by rw [e1, List.length_set]
  rw [put_is _ f false (by rw [hlen]; exact hr), e1, rd_set l (f / 8) _ (by omega) (by omega), List.set_set]
  obtain ⟨c, hc, hcv⟩ := byte_at l f hb hr.2.1 hr.2.2
  have hn := nb_back c hc (f % 8).toNat (List.mem_range.2 (by omega))
  unfold bitOf at ho
  rw [decide_eq_true hr, Bool.true_and, hcv] at ho
  rw [hcv, hn.2.2 ho, ← hcv]
  exact set_same l (f / 8) (by omega) (by omega)
theorem one_more (f g : Nat → Bool) (j0 : Nat) (h : ∀ j, j ≠ j0 → g j = f j) (hf : f j0 = false) (hg : g j0 = true) : ∀ N, ((List.range N).filter g).length = ((List.range N).filter f).length + (if j0 < N then 1 else 0)
  | 0 => by simp
  | N + 1 => by
    have ih := one_more f g j0 h hf hg N
    rw [List.range_succ, List.filter_append, List.filter_append, List.length_append, List.length_append, ih]
    by_cases e : N = j0
    · subst e
      rw [if_neg (by omega), if_pos (by omega)]; simp [hf, hg]
    · have hj := h N e
      by_cases c : j0 < N
      · rw [if_pos c, if_pos (by omega)]; cases q : f N <;> simp [hj, q]
      · rw [if_neg c, if_neg (by omega)]; cases q : f N <;> simp [hj, q]
/-- Drawn bits, and two places. -/
theorem drawloop (c : List Int) (z n : Int) (hc : c.length ≤ 1048576) (hb : ∀ x ∈ c, 0 ≤ x ∧ x ≤ 255) (hn : n ≤ 1000) : ∀ (d : Nat) (i : Int) (acc : List Int) (a : Int), (n - i).toNat = d → 0 ≤ i → acc.length ≤ 1000 → 0 ≤ a → a + 2 * d ≤ 900000 → (∀ x ∈ acc, 0 ≤ x ∧ x ≤ 255) →
    acc.length + d ≤ 1000 → ∃ r a', Ev (fun k => spec_l8DrawBits.l0 k n acc i c a z) (r, a', z) ∧ r.length ≤ acc.length + d ∧ (∀ x ∈ r, 0 ≤ x ∧ x ≤ 255) ∧ 0 ≤ a' ∧ a' ≤ a + 2 * d := by
  intro d
  induction d with
  | zero =>
    intro i acc a hd hi ha h0 h1 hx _
    exact ⟨acc, a, Ev.step (f := fun _ => some (acc, a, z)) (fun k => by rw [spec_l8DrawBits.l0, if_neg (by omega)]) (Ev.now _), by omega, hx, h0, by omega⟩
  | succ d ih =>
    intro i acc a hd hi ha h0 h1 hx hl
    obtain ⟨v, e1, v0, v1, _⟩ := next_ev c a z 256 hc hb h0 (by omega) (by omega)
    obtain ⟨u, e2, u0, u1, _⟩ := next_ev c (a + 1) z 4 hc hb (by omega) (by omega) (by omega)
    have hw : wrap64 (i + 1) = i + 1 := w64 (by omega) (by omega)
    have hgo : ∀ y : Int, 0 ≤ y → y ≤ 255 → (∀ k, spec_l8DrawBits.l0 (k + 1) n acc i c a z = spec_l8DrawBits.l0 k n (acc ++ [y]) (i + 1) c (a + 1 + 1) z) → ∃ r a', Ev (fun k => spec_l8DrawBits.l0 k n acc i c a z) (r, a', z) ∧ r.length ≤ acc.length + (d + 1) ∧ (∀ x ∈ r, 0 ≤ x ∧ x ≤ 255) ∧ 0 ≤ a' ∧ a' ≤ a + 2 * ((d + 1 : Nat) : Int) := fun y y0 y1 hs => by
      obtain ⟨r, a', q1, q2, q3, q4, q5⟩ := ih (i + 1) (acc ++ [y]) (a + 1 + 1) (by omega) (by omega) (by rw [List.length_append, List.length_singleton]; omega) (by omega) (by omega) (fun x h => by
        rcases List.mem_append.1 h with h | h
        · exact hx x h
        · simp only [List.mem_singleton] at h; subst h; exact ⟨y0, y1⟩) (by rw [List.length_append, List.length_singleton]; omega)
      rw [List.length_append, List.length_singleton] at q2
      exact ⟨r, a', Ev.step hs q1, by omega, q3, q4, by omega⟩
    by_cases c0 : u = 0
    · refine hgo 255 (by omega) (by omega) (fun k => ?_)
      rw [spec_l8DrawBits.l0, if_pos (by omega), e1, Option.bind_some, e2, Option.bind_some, hw]
      simp only
      rw [if_pos c0, if_neg (by omega), if_pos (by omega)]
    · by_cases c1 : u = 1
      · refine hgo 0 (by omega) (by omega) (fun k => ?_)
        rw [spec_l8DrawBits.l0, if_pos (by omega), e1, Option.bind_some, e2, Option.bind_some, hw]
        simp only
        rw [if_neg c0, if_pos c1, if_pos (by omega)]
      · refine hgo (v % 256) (by omega) (by omega) (fun k => ?_)
        rw [spec_l8DrawBits.l0, if_pos (by omega), e1, Option.bind_some, e2, Option.bind_some, hw]
        simp only
        rw [if_neg c0, if_neg c1, if_pos (by omega)]
theorem drawbits (c : List Int) (a z : Int) (hc : c.length ≤ 1048576) (hb : ∀ x ∈ c, 0 ≤ x ∧ x ≤ 255) (h0 : 0 ≤ a) (h1 : a ≤ 1000) (hz : 0 ≤ z ∧ z ≤ 12) : ∃ r a', Ev (fun k => spec_l8DrawBits.f k c a z) (r, a', z) ∧ r.length ≤ 2049 ∧ (∀ x ∈ r, 0 ≤ x ∧ x ≤ 255) ∧ 0 ≤ a' ∧ a' ≤ 2000 := by
  obtain ⟨n, e1, n0, n1, _⟩ := next_ev c a z (5 + z) hc hb h0 (by omega) (by omega)
  obtain ⟨b, e2⟩ := chance_ev c (a + 1) z 30 hc hb (by omega) (by omega) (by omega)
  have hw : wrap64 (5 + z) = 5 + z := w64 (by omega) (by omega)
  have hn := n1 (by omega)
  cases b with
  | true =>
    obtain ⟨v, e3, v0, v1, _⟩ := next_ev c (a + 1 + 1) z 2 hc hb (by omega) (by omega) (by omega)
    have hv := v1 (by omega)
    have hwv : wrap64 (2048 + v) = 2048 + v := w64 (by omega) (by omega)
    refine ⟨List.replicate (2048 + v).toNat 0, a + 1 + 1 + 1, Ev.congr (f := fun _ => some (List.replicate (2048 + v).toNat 0, a + 1 + 1 + 1, z)) (fun k => ?_) (Ev.now _), by rw [List.length_replicate]; omega, fun x hx => by rw [List.eq_of_mem_replicate hx]; omega, by omega, by omega⟩
    unfold spec_l8DrawBits.f
    rw [hw, e1, Option.bind_some, e2, Option.bind_some]
    simp only [if_true]
    rw [e3, Option.bind_some]
    simp only
    rw [hwv, if_pos (by omega), if_pos (by omega)]
  | false =>
    obtain ⟨r, a', q1, q2, q3, q4, q5⟩ := drawloop c z n hc hb (by omega) _ 0 [] (a + 1 + 1) rfl (by omega) (by simp) (by omega) (by omega) (fun x h => by simp at h) (by simp; omega)
    rw [List.length_nil] at q2
    refine ⟨r, a', Ev.congr (fun k => ?_) q1, by omega, q3, q4, by omega⟩
    unfold spec_l8DrawBits.f
    rw [hw, e1, Option.bind_some, e2, Option.bind_some]
    simp only [Bool.false_eq_true, if_false]
theorem place (c : List Int) (a z : Int) (l : List Int) (hc : c.length ≤ 1048576) (hb : ∀ x ∈ c, 0 ≤ x ∧ x ≤ 255) (h0 : 0 ≤ a) (h1 : a ≤ 5000) (hl : l.length ≤ 2049) : ∃ v a', spec_l8DrawPlace.f c a z l = some (v, a', z) ∧ -9223372036854775808 ≤ v ∧ v ≤ 9223372036854775807 ∧ 0 ≤ a' ∧ a' ≤ a + 2 := by
  obtain ⟨n, e1, n0, n1, _⟩ := next_ev c a z 20 hc hb h0 (by omega) (by omega)
  have hw : wrap64 (wrap64 (8 * (l.length : Int)) + 3) = 8 * (l.length : Int) + 3 := by rw [w64 (x := 8 * (l.length : Int)) (by omega) (by omega), w64 (by omega) (by omega)]
  unfold spec_l8DrawPlace.f
  rw [e1, Option.bind_some]
  simp only
  by_cases c0 : n = 0
  · exact ⟨9223372036854775807, a + 1, by rw [if_pos c0], by omega, by omega, by omega, by omega⟩
  by_cases c1 : n = 1
  · exact ⟨-9223372036854775808, a + 1, by rw [if_neg c0, if_pos c1], by omega, by omega, by omega, by omega⟩
  obtain ⟨m, e2, m0, m1, _⟩ := next_ev c (a + 1) z (8 * (l.length : Int) + 3) hc hb (by omega) (by omega) (by omega)
  have hm := m1 (by omega)
  exact ⟨m - 1, a + 1 + 1, by rw [if_neg c0, if_neg c1, hw, e2, Option.bind_some, w64 (by omega) (by omega)], by omega, by omega, by omega, by omega⟩
theorem draw (c : List Int) (hc : c.length ≤ 1048576) (hb : ∀ x ∈ c, 0 ≤ x ∧ x ≤ 255) : ∃ l a b, Ev (fun k => spec_DrawBitRuns.f k c) (l, a, b) ∧ l.length ≤ 2049 ∧ (∀ x ∈ l, 0 ≤ x ∧ x ≤ 255) ∧ (-9223372036854775808 ≤ a ∧ a ≤ 9223372036854775807) ∧ (-9223372036854775808 ≤ b ∧ b ≤ 9223372036854775807) := by
  obtain ⟨z, es, z0, z1⟩ := source_ev c hc
  obtain ⟨l, a1, hd, hl, hx, p0, p1⟩ := drawbits c 0 z hc hb (by omega) (by omega) ⟨z0, z1⟩
  obtain ⟨u, a2, eu, u0, u1, q0, q1⟩ := place c a1 z l hc hb p0 (by omega) hl
  obtain ⟨v, a3, ev, v0, v1, r0, r1⟩ := place c a2 z l hc hb q0 (by omega) hl
  have main : ∀ x y a4, (∀ k : Nat, (if u > v then ((spec_l1Chance.f c a3 z 5).bind fun bt158 => (if bt158.1 = true then (some (l, u, v, bt158.2.1, bt158.2.2)) else (some (l, v, u, bt158.2.1, bt158.2.2)))) else (some (l, u, v, a3, z))) = some (l, x, y, a4, z)) → Ev (fun k => spec_DrawBitRuns.f k c) (l, x, y) := fun x y a4 h => by
    refine Ev.congr (fun k => by unfold spec_DrawBitRuns.f; rw [es, Option.bind_some]) ?_
    refine Ev.bind (a := (l, x, y, a4, z)) ?_ (Ev.now _)
    refine Ev.congr (fun k => by unfold spec_l8DrawRange.f; rfl) (hd.bind ?_)
    refine Ev.congr (f := fun _ => some (l, x, y, a4, z)) (fun k => ?_) (Ev.now _)
    simp only
    rw [eu, Option.bind_some]
    simp only
    rw [ev, Option.bind_some]
    exact h 0
  by_cases c1 : u > v
  · obtain ⟨b, e5⟩ := chance_ev c a3 z 5 hc hb r0 (by omega) (by omega)
    cases b with
    | true => exact ⟨l, u, v, main u v (a3 + 1) (fun _ => by rw [if_pos c1, e5, Option.bind_some]; rfl), hl, hx, ⟨u0, u1⟩, ⟨v0, v1⟩⟩
    | false => exact ⟨l, v, u, main v u (a3 + 1) (fun _ => by rw [if_pos c1, e5, Option.bind_some]; rfl), hl, hx, ⟨v0, v1⟩, ⟨u0, u1⟩⟩
  · exact ⟨l, u, v, main u v a3 (fun _ => by rw [if_neg c1]), hl, hx, ⟨u0, u1⟩, ⟨v0, v1⟩⟩
/-- The law's end: a bit put on, and off again. -/
theorem last (l : List Int) (fi : Int) (hx : ∀ x ∈ l, 0 ≤ x ∧ x ≤ 255) (hl : l.length ≤ 2048) (h : fi = -1 ∨ (0 ≤ fi ∧ fi < 8 * l.length ∧ bitOf l fi = false)) : Ev (fun k => laws_FnBits.j3 k l fi false) true := by
  rcases h with h | ⟨h0, h1, h2⟩
  · exact Ev.step (f := fun _ => some true) (fun k => by rw [laws_FnBits.j3, if_neg (by simp), if_pos (by omega)]) (Ev.now _)
  have hr : l.length ≤ 2048 ∧ 0 ≤ fi ∧ fi < 8 * l.length := ⟨hl, h0, h1⟩
  have hlen : (putBit l fi true).length = l.length := by rw [put_is l fi true hr, List.length_set]
  have hy := put_bytes l fi true hx hr
  have p1 := implPut_ev l fi true hx (by omega)
  have p2 := implPut_ev (putBit l fi true) fi false hy (by omega)
  rw [put_back l fi hx hr h2] at p2
  have g1 := implBit (putBit l fi true) fi hy (by omega)
  rw [put_bit l fi true hx hr fi, if_pos rfl] at g1
  have hbl1 : blen (putBit l fi true) = 8 * (l.length : Int) := by unfold blen; rw [hlen, if_neg (by omega)]
  have hbl2 : blen l = 8 * (l.length : Int) := by unfold blen; rw [if_neg (by omega)]
  have hw : wrap64 (8 * (l.length : Int)) = 8 * (l.length : Int) := w64 (by omega) (by omega)
  obtain ⟨r1, _, c1, v1⟩ := count_loops (putBit l fi true) (8 * (l.length : Int)) hy (by omega) (8 * l.length) 0 0 (by omega) (by omega) (by omega) (by omega) (by rw [hbl1]; omega)
  obtain ⟨r2, c2, _, v2⟩ := count_loops l (8 * (l.length : Int)) hx (by omega) (8 * l.length) 0 0 (by omega) (by omega) (by omega) (by omega) (by rw [hbl2]; omega)
  have hmore := one_more (fun j : Nat => bitOf l (0 + (j : Int))) (fun j : Nat => bitOf (putBit l fi true) (0 + (j : Int))) fi.toNat (fun j hj => by
    show bitOf (putBit l fi true) (0 + (j : Int)) = bitOf l (0 + (j : Int))
    rw [put_bit l fi true hx hr, if_neg (by omega)]) (by show bitOf l (0 + (fi.toNat : Int)) = false; rw [show (0 : Int) + (fi.toNat : Int) = fi by omega]; exact h2) (by show bitOf (putBit l fi true) (0 + (fi.toNat : Int)) = true; rw [show (0 : Int) + (fi.toNat : Int) = fi by omega, put_bit l fi true hx hr, if_pos rfl]) (8 * l.length)
  rw [if_pos (by omega)] at hmore
  have hcl : ((List.range (8 * l.length)).filter (fun j : Nat => bitOf l (0 + (j : Int)))).length ≤ 8 * l.length := by
    have := List.length_filter_le (fun j : Nat => bitOf l (0 + (j : Int))) (List.range (8 * l.length))
    rwa [List.length_range] at this
  have hres : r1 = wrap64 (r2 + 1) := by
    rw [v1, v2, hmore]
    generalize ((List.range (8 * l.length)).filter (fun j : Nat => bitOf l (0 + (j : Int)))).length = q at hcl
    clear v1 v2 hmore c1 c2
    rw [w64 (by omega) (by omega)]; omega
  clear v1 v2 hmore hcl
  have e1 : Ev (fun k => impl_BitCount.f k (putBit l fi true) 0 (8 * (l.length : Int))) r1 := Ev.congr (fun k => by unfold impl_BitCount.f; rw [mx_eq]; rfl) c1
  have e2 : Ev (fun k => spec_BitCount.f k l 0 (8 * (l.length : Int))) r2 := Ev.congr (fun k => by unfold spec_BitCount.f; rw [within_eq l 0 _ (by omega), Option.bind_some]; rfl) c2
  refine Ev.step (f := fun k => (impl_BitPut.f k l fi true).bind fun t236 => (if 0 + t236.length < 140737488355328 then ((impl_BitPut.f k t236 fi false).bind fun t245 => (if (t236.length : Int) = (l.length : Int) then ((impl_BitGet.f t236 fi).bind fun t248 => (if t248 = true then ((laws_lwSameBytes.f t245 l).bind fun t249 => (if t249 = true then ((impl_BitCount.f k t236 0 (wrap64 (8 * (l.length : Int)))).bind fun t250 => ((spec_BitCount.f k l 0 (wrap64 (8 * (l.length : Int)))).bind fun t251 => (some (t250 == (wrap64 (t251 + 1)))))) else (some false))) else (some false))) else (some false))) else none)) (fun k => ?_) ?_
  · rw [laws_FnBits.j3, if_neg (by simp), if_neg (by omega)]
    simp only [Option.bind_some, List.nil_append, List.length_nil]
    rw [if_pos (by omega)]
  refine p1.bind ?_
  refine Ev.congr (fun k => by rw [if_pos (by omega)]) ?_
  refine p2.bind ?_
  refine Ev.congr (f := fun k => (impl_BitCount.f k (putBit l fi true) 0 (8 * (l.length : Int))).bind fun t250 => ((spec_BitCount.f k l 0 (8 * (l.length : Int))).bind fun t251 => (some (t250 == (wrap64 (t251 + 1)))))) (fun k => by
    rw [if_pos (by rw [hlen]), g1, Option.bind_some, if_pos rfl]
    unfold laws_lwSameBytes.f
    rw [Option.bind_some, beq_self_eq_true, if_pos rfl, hw]) ?_
  refine e1.bind (e2.bind ?_)
  exact Ev.congr (f := fun _ => some true) (fun k => by rw [hres, beq_self_eq_true]) (Ev.now _)
end FB
theorem FnBits : laws_FnBits.Pure := by
  intro c hm _ hw
  by_cases h : (c.length : Int) > 1048576
  · exact ⟨0, by unfold laws_FnBits.f; rw [if_pos h]⟩
  obtain ⟨l, a, b, hd, hl, hx, ha, hb⟩ := FB.draw c (by omega) (fun x hx => wfb (hw x hx))
  have hbl := FB.blen_bd l
  obtain ⟨fi, f1, f2⟩ := FB.first_ev l b hx (by omega) _ (max 0 a) (by omega) (by omega) rfl
  have f1' : Ev (fun k => impl_BitFirst.f k l a b) fi := Ev.congr (fun k => by unfold impl_BitFirst.f; rw [FB.mx_eq, show max a 0 = max 0 a by omega]) f1
  obtain ⟨r, _, c1, c2⟩ := FB.count_loops l b hx (by omega) _ (max 0 a) 0 (by omega) (by omega) (by omega) (by omega) rfl
  have c1' : Ev (fun k => impl_BitCount.f k l a b) r := Ev.congr (fun k => by unfold impl_BitCount.f; rw [FB.mx_eq, show max a 0 = max 0 a by omega]) c1
  have hlb : brLen l = FB.blen l := rfl
  have hR : impl_BitRuns.f l a b = some (brUp l (max a 0).toNat ((min b (brLen l)).toNat - (max a 0).toNat)) := by unfold impl_BitRuns.f; rw [if_pos ⟨ha.1, ha.2, hb.1, hb.2⟩]
  have hgood := FB.good l (max a 0).toNat hx (by omega) ((min b (brLen l)).toNat - (max a 0).toNat)
  have hlen := brUp_len l (max a 0).toNat ((min b (brLen l)).toNat - (max a 0).toNat)
  have hN : (min (FB.blen l) b - max 0 a).toNat = (min b (brLen l)).toNat - (max a 0).toNat := by rw [hlb]; omega
  have hN2 : (min b (brLen l)).toNat - (max a 0).toNat ≤ 16384 := by rw [hlb]; omega
  rw [hN] at c2
  refine Ev.rounds (Ev.congr (fun k => by unfold laws_FnBits.f; rw [if_neg h]) ?_)
  refine hd.bind ?_
  refine Ev.congr (fun k => by simp only [Option.bind_some, List.nil_append, List.length_nil]; rw [if_pos (by omega), hR, Option.bind_some, if_pos (by omega)]) ?_
  refine f1'.bind ?_
  have hmax : max 0 a = ((max a 0).toNat : Int) := by omega
  rw [hmax] at f2 c2
  have hfi : fi = -1 ∨ (0 ≤ fi ∧ fi < FB.blen l ∧ FB.bitOf l fi = false) := by
    rcases f2 with ⟨e, _⟩ | ⟨e1, e2, e3, _⟩
    · exact .inl e
    · exact .inr ⟨by omega, by omega, e3⟩
  have htop : ((((max a 0).toNat + ((min b (brLen l)).toNat - (max a 0).toNat) : Nat) : Int)) ≤ max ((max a 0).toNat : Int) (min b (brLen l)) ∧ min b (brLen l) ≤ (((max a 0).toNat + ((min b (brLen l)).toNat - (max a 0).toNat) : Nat) : Int) := by rw [hlb]; omega
  have hempty : brUp l (max a 0).toNat ((min b (brLen l)).toNat - (max a 0).toNat) = [] ↔ fi = -1 := by
    constructor
    · intro e
      rcases f2 with ⟨e1, _⟩ | ⟨e1, e2, e3, _⟩
      · exact e1
      · have := hgood.none_ e fi e1 (by rw [hlb] at htop ⊢; omega)
        rw [e3] at this; cases this
    · intro e
      cases hq : brUp l (max a 0).toNat ((min b (brLen l)).toNat - (max a 0).toNat) with
      | nil => rfl
      | cons x q =>
        obtain ⟨p1, p2, p3, p4⟩ := hgood.all x (by rw [hq]; simp)
        rcases f2 with ⟨_, e1⟩ | ⟨e1, _⟩
        · have := e1 x.f0 p1 (by rw [hlb] at htop p3; omega)
          rw [p4 x.f0 (Int.le_refl _) (by omega)] at this; cases this
        · omega
  have hhead : ∀ x, (brUp l (max a 0).toNat ((min b (brLen l)).toNat - (max a 0).toNat)).head? = some x → x.f0 = fi := by
    intro x hq
    obtain ⟨p1, p2, p3, p4⟩ := hgood.all x (List.mem_of_mem_head? hq)
    rcases f2 with ⟨e, _⟩ | ⟨e1, e2, e3, e4⟩
    · rw [hempty.2 e] at hq; cases hq
    · have h1 := hgood.head_ x hq
      rcases Int.lt_trichotomy x.f0 fi with c | c | c
      · have := e4 x.f0 p1 c
        rw [p4 x.f0 (Int.le_refl _) (by omega)] at this; cases this
      · exact c
      · have := h1 fi e1 c
        rw [e3] at this; cases this
  have hparts := FB.parts (fun j : Nat => FB.bitOf l (((max a 0).toNat : Int) + (j : Int))) ((min b (brLen l)).toNat - (max a 0).toNat)
  have hsum := hgood.sum
  by_cases big : (l.length : Int) > 2048
  · have hz : FB.blen l = 0 := by unfold FB.blen; rw [if_pos big]
    have hN0 : (min b (brLen l)).toNat - (max a 0).toNat = 0 := by rw [hlb, hz]; omega
    have hfi1 : fi = -1 := by rcases hfi with e | ⟨e1, e2, _⟩; exact e; omega
    rw [hN0] at c2 hempty ⊢
    refine Ev.congr (fun k => by rw [if_pos big, if_pos (by rw [hempty.2 hfi1]; rfl), if_pos hfi1]) ?_
    refine c1'.bind ?_
    exact Ev.congr (f := fun _ => some true) (fun k => by rw [c2]; rfl) (Ev.now _)
  refine Ev.congr (fun k => if_neg big) ?_
  have hbl2 : FB.blen l = 8 * (l.length : Int) := by unfold FB.blen; rw [if_neg big]
  have hw8 : wrap64 (8 * (l.length : Int)) = 8 * (l.length : Int) := w64 (by omega) (by omega)
  obtain ⟨lo', hlo'⟩ : ∃ x : Int, x = mn (mx 0 a) (wrap64 (8 * (l.length : Int))) := ⟨_, rfl⟩
  obtain ⟨hi', hhi'⟩ : ∃ x : Int, x = mx lo' (mn (wrap64 (8 * (l.length : Int))) b) := ⟨_, rfl⟩
  rw [← hlo', ← hhi']
  rw [hw8, FB.mn_eq, FB.mx_eq] at hlo'
  rw [hw8, FB.mn_eq, FB.mx_eq] at hhi'
  have hdiff : hi' - lo' = (((min b (brLen l)).toNat - (max a 0).toNat : Nat) : Int) := by rw [hlb, hbl2]; omega
  have hin : ∀ x ∈ brUp l (max a 0).toNat ((min b (brLen l)).toNat - (max a 0).toNat), lo' ≤ x.f0 ∧ 1 ≤ x.f1 ∧ x.f0 + x.f1 ≤ hi' ∧ ∀ j : Int, x.f0 ≤ j → j < x.f0 + x.f1 → FB.bitOf l j = false := fun x hx1 => by
    obtain ⟨p1, p2, p3, p4⟩ := hgood.all x hx1
    refine ⟨by omega, p2, ?_, p4⟩
    rw [hlb, hbl2] at p3
    omega
  have hlo0 : 0 ≤ lo' := by omega
  have hhi0 : hi' ≤ 16384 := by omega
  generalize hRn : brUp l (max a 0).toNat ((min b (brLen l)).toNat - (max a 0).toNat) = R at *
  generalize (min b (brLen l)).toNat - (max a 0).toNat = N at *
  refine FB.outer l a b R fi lo' hi' hx (by omega) hlo0 hhi0 (by omega) hin hgood.apart (fun at_ => ?_) R.length 0 0 lo' (by omega) (by simp) (Int.le_refl _) (by simp) (fun _ => rfl) (fun h => absurd h (Nat.lt_irrefl 0))
  have hlast := FB.last l fi hx (by omega) (hfi.imp id (fun h => ⟨h.1, by rw [← hbl2]; exact h.2.1, h.2.2⟩))
  have hcs : wrap64 (r + (R.map (·.f1)).sum) = wrap64 (hi' - lo') := by
    congr 1
    rw [hdiff, hsum, c2]
    clear hsum c2 c1 c1' hlast
    omega
  have he : ((((R.length : Int) == 0) != (fi == (-1))) = true) = False := by
    by_cases e : R = []
    · rw [e, hempty.1 e]; simp
    · have e1 : ¬ fi = -1 := fun e1 => e (hempty.2 e1)
      have e2 : ((R.length : Int) == 0) = false := beq_eq_false_iff_ne.mpr (fun e2 => e (List.eq_nil_of_length_eq_zero (by omega)))
      rw [e2, beq_eq_false_iff_ne.mpr e1]; simp
  clear hsum c2
  refine Ev.step (f := fun k => (impl_BitCount.f k l a b).bind fun t228 => (if (wrap64 (t228 + (R.map (·.f1)).sum)) = (wrap64 (hi' - lo')) then (if (((R.length : Int) == 0) != (fi == (-1))) = true then (laws_FnBits.j3 k l fi true) else (if (R.length : Int) > 0 then (if 0 < (R.length : Int) then (laws_FnBits.j3 k l fi (((rd_T35 R 0).f0) != fi)) else (none)) else (laws_FnBits.j3 k l fi false))) else (laws_FnBits.j3 k l fi true))) (fun k => ?_) ?_
  · rw [laws_FnBits.l0, if_neg (Int.lt_irrefl _)]
    simp only [Option.bind_some, List.nil_append, List.length_nil]
    rw [if_pos (by clear hcs; omega)]
  refine c1'.bind ?_
  refine Ev.congr (fun k => by rw [if_pos hcs, if_neg (by rw [he]; exact id)]) ?_
  by_cases e : R = []
  · refine Ev.congr (fun k => by rw [if_neg (by rw [e]; simp)]) hlast
  · obtain ⟨x, q, rfl⟩ : ∃ x q, R = x :: q := by
      cases R with
      | nil => exact absurd rfl e
      | cons x q => exact ⟨x, q, rfl⟩
    have h0 : (rd_T35 (x :: q) 0).f0 = fi := by
      rw [show rd_T35 (x :: q) 0 = x from rfl]; exact hhead x rfl
    refine Ev.congr (fun k => by rw [if_pos (by simp), if_pos (by simp), h0, show (fi != fi) = false from bne_self_eq_false fi]) hlast
end Go.Proofs.Ytikandlenlhdkaa.Pure
