/- FnExactBitPut: at every list of bytes, number and bit the program's BitPut returns what the reference's returns, and the bytes stay as they were. -/
import Derived.Test.YtmaeofmmainmlaaPFnExactBitPutx3
import Derived.Test.YtmaeofmmainmlaaHlp
namespace Go.Proofs.Ytmaeofmmainmlaa.Pure
open Go.RowKit Go.Proofs.Ytmaeofmmainmlaa.PFnExactBitPut Go.Proofs.YtmaeofmmainmlaaW.PrintWords Go.Proofs.YtmaeofmmainmlaaW.PrintLast Go.Proofs.YtmaeofmmainmlaaW.PrintMore Go.Proofs.Ytmaeofmmainmlaa.Hlp
namespace BP
/-- What both say. -/
def bitOf (l : List Int) (i : Int) : Bool := decide (l.length ≤ 2048 ∧ 0 ≤ i ∧ i < 8 * l.length) && ((rd l (i / 8) / 2 ^ (i % 8).toNat) % 2 == 1)
theorem half_ev (n : Nat) : ∀ x : Int, 0 ≤ x → x ≤ 255 → n < 8 → Ev (fun k => spec_BitGet.l0 k x (n : Int)) ((x / 2 ^ n) % 2 == 1) := by
  induction n with
  | zero =>
    intro x h0 h1 _
    refine Ev.step (f := fun _ => some ((x / 2 ^ 0) % 2 == 1)) (fun k => ?_) (Ev.now _)
    simp only [spec_BitGet.l0]; rw [if_neg (by omega), Int.tmod_eq_emod_of_nonneg h0]; simp
  | succ n ih =>
    intro x h0 h1 hn
    refine Ev.step (f := fun k => spec_BitGet.l0 k (x / 2) (n : Int)) (fun k => ?_) ?_
    · simp only [spec_BitGet.l0]
      rw [if_pos (by omega), w64 (by omega) (by omega), Int.tdiv_eq_ediv_of_nonneg h0, show (x / 2) % 256 = x / 2 by omega]
      congr 1; omega
    · have h := ih (x / 2) (by omega) (by omega) (by omega)
      have e : x / 2 / 2 ^ n = x / 2 ^ (n + 1) := by
        rw [Int.ediv_ediv_of_nonneg (by omega), Int.pow_succ, Int.mul_comm]
      rwa [e] at h
theorem specBit_ev (l : List Int) (i : Int) (hb : ∀ x ∈ l, 0 ≤ x ∧ x ≤ 255) (hl : l.length ≤ 281474976710656) : Ev (fun k => spec_BitGet.f k l i) (bitOf l i) := by
  have hj : ∀ k b, spec_BitGet.j0 (k + 1) l i b = if b = true then (some false) else (if 0 ≤ (wrap64 (Int.tdiv i 8)) then (if (wrap64 (Int.tdiv i 8)) < (l.length : Int) then (spec_BitGet.l0 k (rd l (wrap64 (Int.tdiv i 8))) (Int.tmod i 8)) else (none)) else (none)) := fun _ _ => rfl
  by_cases h1 : (l.length : Int) > 2048
  · have : bitOf l i = false := by unfold bitOf; rw [decide_eq_false (by omega)]; rfl
    rw [this]
    refine Ev.step (f := fun _ => some false) (fun k => ?_) (Ev.now _)
    unfold spec_BitGet.f; rw [if_pos h1, hj, if_pos rfl]
  by_cases h2 : i < 0
  · have : bitOf l i = false := by unfold bitOf; rw [decide_eq_false (by omega)]; rfl
    rw [this]
    refine Ev.step (f := fun _ => some false) (fun k => ?_) (Ev.now _)
    unfold spec_BitGet.f; rw [if_neg h1, if_pos h2, hj, if_pos rfl]
  have w : wrap64 (8 * (l.length : Int)) = 8 * (l.length : Int) := w64 (by omega) (by omega)
  by_cases h3 : i ≥ 8 * (l.length : Int)
  · have : bitOf l i = false := by unfold bitOf; rw [decide_eq_false (by omega)]; rfl
    rw [this]
    refine Ev.step (f := fun _ => some false) (fun k => ?_) (Ev.now _)
    unfold spec_BitGet.f; rw [if_neg h1, if_neg h2, w, hj, if_pos (decide_eq_true h3)]
  · have hd : wrap64 (Int.tdiv i 8) = i / 8 := by rw [Int.tdiv_eq_ediv_of_nonneg (by omega)]; exact w64 (by omega) (by omega)
    have hm : Int.tmod i 8 = ((i % 8).toNat : Int) := by rw [Int.tmod_eq_emod_of_nonneg (by omega)]; omega
    have hr := hb _ (rd_mem (l := l) (i := i / 8) (by omega) (by omega))
    have : bitOf l i = ((rd l (i / 8) / 2 ^ (i % 8).toNat) % 2 == 1) := by unfold bitOf; rw [decide_eq_true (by omega)]; rfl
    rw [this]
    refine Ev.step (f := fun k => spec_BitGet.l0 k (rd l (i / 8)) ((i % 8).toNat : Int)) (fun k => ?_) (half_ev _ _ hr.1 hr.2 (by omega))
    unfold spec_BitGet.f; rw [if_neg h1, if_neg h2, w, hj, if_neg (by simpa using h3), hd, hm, if_pos (by omega), if_pos (by omega)]
/-- The byte with its bit put. -/
def nb (b : Int) (s : Nat) (v : Bool) : Int := if (b / 2 ^ s) % 2 = 1 then (if v = true then b else b - 2 ^ s) else (if v = true then b + 2 ^ s else b)
theorem nb_all : ∀ b ∈ List.range 256, ∀ s ∈ List.range 8, bits .andNot .u8 (b : Int) (shl .u8 1 (s : Int)) = nb (b : Int) s false ∧ bits .or .u8 (nb (b : Int) s false) (shl .u8 1 (s : Int)) = nb (b : Int) s true ∧
    (((b : Int) / 2 ^ s) % 2 = 1 → ((b : Int) - 2 ^ s) % 256 = nb (b : Int) s false) ∧ (¬ ((b : Int) / 2 ^ s) % 2 = 1 → ((b : Int) + 2 ^ s) % 256 = nb (b : Int) s true) := by decide +kernel
theorem nb_at (b : Int) (s : Nat) (h0 : 0 ≤ b) (h1 : b ≤ 255) (hs : s < 8) : bits .andNot .u8 b (shl .u8 1 (s : Int)) = nb b s false ∧ bits .or .u8 (nb b s false) (shl .u8 1 (s : Int)) = nb b s true ∧
    ((b / 2 ^ s) % 2 = 1 → (b - 2 ^ s) % 256 = nb b s false) ∧ (¬ (b / 2 ^ s) % 2 = 1 → (b + 2 ^ s) % 256 = nb b s true) := by
  obtain ⟨n, rfl⟩ := Int.eq_ofNat_of_zero_le h0
  exact nb_all n (List.mem_range.2 (by omega)) s (List.mem_range.2 hs)
def putBit (l : List Int) (i : Int) (v : Bool) : List Int := if l.length ≤ 2048 ∧ 0 ≤ i ∧ i < 8 * l.length then l.set (i / 8).toNat (nb (rd l (i / 8)) (i % 8).toNat v) else []
theorem put_len (l : List Int) (i : Int) (v : Bool) : (putBit l i v).length ≤ 2048 := by
  unfold putBit; split
  · rw [List.length_set]; omega
  · simp
theorem set_same (l : List Int) (j : Int) (h0 : 0 ≤ j) (h1 : j < l.length) : l.set j.toNat (rd l j) = l := by
  obtain ⟨n, rfl⟩ := Int.eq_ofNat_of_zero_le h0
  rw [rd_nat l n (by omega), Int.toNat_natCast, List.set_getElem_self]
theorem rd_set (l : List Int) (j : Int) (x : Int) (h0 : 0 ≤ j) (h1 : j < l.length) : rd (l.set j.toNat x) j = x := by
  obtain ⟨n, rfl⟩ := Int.eq_ofNat_of_zero_le h0
  rw [rd_nat _ n (by simp; omega), List.getElem_set]; simp
theorem pow_ev (x0 : List Int) (x1 : Int) (x2 : Bool) (x7 : List Int) (s : Nat) (hs : s < 8) (r : List Int) (h : Ev (fun k => spec_BitPut.l0 k x0 x1 x2 x7 (2 ^ s) 0) r) :
    ∀ n p : Nat, n + p = s → Ev (fun k => spec_BitPut.l0 k x0 x1 x2 x7 (2 ^ p) (n : Int)) r := by
  intro n
  induction n with
  | zero => intro p hp; rw [show p = s by omega]; exact h
  | succ n ih =>
    intro p hp
    refine Ev.step (fun k => ?_) (ih (p + 1) (by omega))
    have e : ((2 : Int) ^ p * 2) % 256 = 2 ^ (p + 1) := by
      have : ∀ p ∈ List.range 7, ((2 : Int) ^ p * 2) % 256 = 2 ^ (p + 1) := by decide +kernel
      exact this p (List.mem_range.2 (by omega))
    simp only [spec_BitPut.l0]
    rw [if_pos (by omega), e, w64 (by omega) (by omega)]
    congr 1; omega
theorem specPut_ev (l : List Int) (i : Int) (v : Bool) (hb : ∀ x ∈ l, 0 ≤ x ∧ x ≤ 255) (hl : l.length ≤ 1048576) : Ev (fun k => spec_BitPut.f k l i v) (putBit l i v) := by
  have jt : Ev (fun k => spec_BitPut.j0 k l i v true) [] := Ev.step (f := fun _ => some []) (fun k => by simp only [spec_BitPut.j0]; rw [if_pos trivial]) (Ev.now _)
  have w : wrap64 (8 * (l.length : Int)) = 8 * (l.length : Int) := w64 (by omega) (by omega)
  by_cases h1 : (l.length : Int) > 2048
  · rw [show putBit l i v = [] by unfold putBit; rw [if_neg (by omega)]]
    exact Ev.congr (fun k => by unfold spec_BitPut.f; rw [if_pos h1]) jt
  by_cases h2 : i < 0
  · rw [show putBit l i v = [] by unfold putBit; rw [if_neg (by omega)]]
    exact Ev.congr (fun k => by unfold spec_BitPut.f; rw [if_neg h1, if_pos h2]) jt
  by_cases h3 : i ≥ 8 * (l.length : Int)
  · rw [show putBit l i v = [] by unfold putBit; rw [if_neg (by omega)]]
    exact Ev.congr (fun k => by unfold spec_BitPut.f; rw [if_neg h1, if_neg h2, w, decide_eq_true h3]) jt
  have hd : wrap64 (Int.tdiv i 8) = i / 8 := by rw [Int.tdiv_eq_ediv_of_nonneg (by omega)]; exact w64 (by omega) (by omega)
  have hm : Int.tmod i 8 = ((i % 8).toNat : Int) := by rw [Int.tmod_eq_emod_of_nonneg (by omega)]; omega
  have hr := hb _ (rd_mem (l := l) (i := i / 8) (by omega) (by omega))
  have hs : (i % 8).toNat < 8 := by omega
  obtain ⟨_, _, n3, n4⟩ := nb_at _ _ hr.1 hr.2 hs
  have hp : putBit l i v = l.set (i / 8).toNat (nb (rd l (i / 8)) (i % 8).toNat v) := by unfold putBit; rw [if_pos (by omega)]
  rw [hp]
  refine Ev.congr (fun k => by unfold spec_BitPut.f; rw [if_neg h1, if_neg h2, w, decide_eq_false h3]) ?_
  refine Ev.step (f := fun k => spec_BitPut.l0 k l i v l (2 ^ 0) (((i % 8).toNat : Nat) : Int)) (fun k => by simp only [spec_BitPut.j0, spec_l1Copy.f, Option.bind_some]; rw [if_neg (by decide), if_pos (by simp; omega), hm, Option.bind_some]; rfl) ?_
  refine pow_ev l i v l _ hs _ ?_ _ 0 (by omega)
  refine Ev.step (f := fun k => (spec_BitGet.f k l i).bind fun t123 => (if v = true then (spec_BitPut.j2 k i v l (2 ^ (i % 8).toNat) t123 (!t123)) else (spec_BitPut.j2 k i v l (2 ^ (i % 8).toNat) t123 false))) (fun k => by simp only [spec_BitPut.l0]; rw [if_neg (by omega)]) ?_
  refine (specBit_ev l i hb (by omega)).bind ?_
  have hbit : bitOf l i = ((rd l (i / 8) / 2 ^ (i % 8).toNat) % 2 == 1) := by unfold bitOf; rw [decide_eq_true (by omega)]; rfl
  rw [hbit]
  by_cases c : (rd l (i / 8) / 2 ^ (i % 8).toNat) % 2 = 1
  · rw [show ((rd l (i / 8) / 2 ^ (i % 8).toNat) % 2 == 1) = true by simpa using c]
    cases v with
    | true =>
      have e : nb (rd l (i / 8)) (i % 8).toNat true = rd l (i / 8) := by unfold nb; rw [if_pos c, if_pos rfl]
      rw [e, set_same l (i / 8) (by omega) (by omega)]
      refine Ev.congr (fun k => if_pos rfl) ?_
      exact Ev.step (f := fun _ => some l) (fun k => by simp only [spec_BitPut.j2]; simp) (Ev.now _)
    | false =>
      refine Ev.congr (fun k => if_neg (by decide)) ?_
      refine Ev.step (f := fun _ => some (l.set (i / 8).toNat (nb (rd l (i / 8)) (i % 8).toNat false))) (fun k => ?_) (Ev.now _)
      simp only [spec_BitPut.j2]
      rw [if_neg (by decide), if_neg (by decide), if_pos trivial, hd, if_pos (by omega), if_pos (by omega), n3 c]
  · rw [show ((rd l (i / 8) / 2 ^ (i % 8).toNat) % 2 == 1) = false by simpa using c]
    cases v with
    | true =>
      refine Ev.congr (fun k => if_pos rfl) ?_
      refine Ev.step (f := fun _ => some (l.set (i / 8).toNat (nb (rd l (i / 8)) (i % 8).toNat true))) (fun k => ?_) (Ev.now _)
      simp only [spec_BitPut.j2]
      rw [if_pos (by decide), hd, if_pos (by omega), if_pos (by omega), n4 c, Option.bind_some, if_pos trivial]
    | false =>
      have e : nb (rd l (i / 8)) (i % 8).toNat false = rd l (i / 8) := by unfold nb; rw [if_neg c, if_neg (by decide)]
      rw [e, set_same l (i / 8) (by omega) (by omega)]
      refine Ev.congr (fun k => if_neg (by decide)) ?_
      exact Ev.step (f := fun _ => some l) (fun k => by simp only [spec_BitPut.j2]; simp) (Ev.now _)
theorem implPut_ev (l : List Int) (i : Int) (v : Bool) (hb : ∀ x ∈ l, 0 ≤ x ∧ x ≤ 255) (hl : l.length ≤ 1048576) : Ev (fun k => impl_BitPut.f k l i v) (putBit l i v) := by
  have jt : Ev (fun k => impl_BitPut.j0 k l i v true) [] := Ev.step (f := fun _ => some []) (fun k => by simp only [impl_BitPut.j0]; rw [if_pos trivial]) (Ev.now _)
  by_cases h2 : i < 0
  · rw [show putBit l i v = [] by unfold putBit; rw [if_neg (by omega)]]
    exact Ev.congr (fun k => by unfold impl_BitPut.f; rw [if_pos h2]) jt
  by_cases h1 : (l.length : Int) > 2048
  · rw [show putBit l i v = [] by unfold putBit; rw [if_neg (by omega)]]
    exact Ev.congr (fun k => by unfold impl_BitPut.f impl_bitlen.f; rw [if_neg h2, if_pos h1, Option.bind_some, decide_eq_true (by omega)]) jt
  have w : wrap64 ((l.length : Int) * 8) = (l.length : Int) * 8 := w64 (by omega) (by omega)
  by_cases h3 : i ≥ (l.length : Int) * 8
  · rw [show putBit l i v = [] by unfold putBit; rw [if_neg (by omega)]]
    exact Ev.congr (fun k => by unfold impl_BitPut.f impl_bitlen.f; rw [if_neg h2, if_neg h1, Option.bind_some, w, decide_eq_true h3]) jt
  have hd : wrap64 (Int.tdiv i 8) = i / 8 := by rw [Int.tdiv_eq_ediv_of_nonneg (by omega)]; exact w64 (by omega) (by omega)
  have hm : Int.tmod i 8 = ((i % 8).toNat : Int) := by rw [Int.tmod_eq_emod_of_nonneg (by omega)]; omega
  have hr := hb _ (rd_mem (l := l) (i := i / 8) (by omega) (by omega))
  have hs : (i % 8).toNat < 8 := by omega
  obtain ⟨n1, n2, _, _⟩ := nb_at _ _ hr.1 hr.2 hs
  have hp : putBit l i v = l.set (i / 8).toNat (nb (rd l (i / 8)) (i % 8).toNat v) := by unfold putBit; rw [if_pos (by omega)]
  rw [hp]
  refine Ev.congr (fun k => by unfold impl_BitPut.f impl_bitlen.f; rw [if_neg h2, if_neg h1, Option.bind_some, w, decide_eq_false h3]) ?_
  refine Ev.step (f := fun _ => some (l.set (i / 8).toNat (nb (rd l (i / 8)) (i % 8).toNat v))) (fun k => ?_) (Ev.now _)
  simp only [impl_BitPut.j0, impl_cp.f, Option.bind_some]
  rw [if_neg (by decide), if_pos (by simp; omega), hd, hm, Option.bind_some, List.nil_append, if_pos (by omega), if_pos (by omega), if_pos (by omega), n1, rd_set l _ _ (by omega) (by omega), n2, List.set_set]
  cases v <;> rfl
end BP
theorem FnExactBitPut : laws_FnExactBitPut.Pure := by
  intro l a v _ hl hb _
  by_cases h : (l.length : Int) > 1048576
  · exact ⟨0, by unfold laws_FnExactBitPut.f; rw [if_pos h]⟩
  have hb' : ∀ x ∈ l, 0 ≤ x ∧ x ≤ 255 := fun x hx => wfb (hb x hx)
  have t := toS_ev (F := laws_toByteS.f) (fun _ _ => rfl) (fun _ _ _ _ => rfl) l (by omega) (by omega)
  have et := eqS_ev (F := laws_eqByteS.f) (fun _ _ _ => rfl) (fun _ _ _ _ => rfl) l (by omega)
  have mt : Ev (fun k => laws_markByteS.f k l 1) _ := mark_ev (fun x => x % 256) (L := laws_markByteS.l0) (fun _ _ _ _ => rfl) l 1 (by omega) (by omega)
  have s := BP.specPut_ev l a v hb' (by omega)
  have i := BP.implPut_ev l a v hb' (by omega)
  have hr := BP.put_len l a v
  generalize BP.putBit l a v = r at s i hr
  have e := eqS_ev (F := laws_eqByteS.f) (fun _ _ _ => rfl) (fun _ _ _ _ => rfl) r (by omega)
  have m : Ev (fun k => laws_markByteS.f k r 1) _ := mark_ev (fun x => x % 256) (L := laws_markByteS.l0) (fun _ _ _ _ => rfl) r 1 (by omega) (by omega)
  have hd : Ev (fun k => laws_heldByteS.f k _ 1) _ := held_ev (fun x => x % 256) (L := laws_heldByteS.l0) (fun _ _ _ _ => rfl) r.length 1 (by omega) (by omega)
  refine Ev.rounds (Ev.congr (fun k => by unfold laws_FnExactBitPut.f; rw [if_neg h]) ?_)
  refine t.bind ?_
  refine s.bind ?_
  refine t.bind ?_
  refine i.bind ?_
  refine e.bind ?_
  refine Ev.congr (fun k => if_pos rfl) ?_
  refine t.bind ?_
  refine et.bind ?_
  refine Ev.congr (fun k => if_pos rfl) ?_
  refine mt.bind ?_
  refine Ev.congr (fun k => if_neg (by simp only; omega)) ?_
  refine e.bind ?_
  refine Ev.step (fun k => by simp only [laws_FnExactBitPut.j0]; rw [if_neg (by decide)]) ?_
  refine m.bind ?_
  refine hd.bind ?_
  refine Ev.congr (fun k => if_neg (by omega)) ?_
  refine Ev.congr (fun k => if_pos rfl) ?_
  refine t.bind ?_
  refine i.bind ?_
  refine e.bind ?_
  refine Ev.congr (fun k => if_pos rfl) ?_
  refine hd.bind ?_
  refine Ev.congr (fun k => if_neg (by omega)) ?_
  exact Ev.congr (fun k => if_pos rfl) (Ev.now true)
end Go.Proofs.Ytmaeofmmainmlaa.Pure
