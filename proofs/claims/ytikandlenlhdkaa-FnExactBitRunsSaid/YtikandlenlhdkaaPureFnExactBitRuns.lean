/- FnExactBitRuns: at every list of bytes and every two numbers the program's BitRuns answers as the reference's, writes into nothing and its answer is its own. -/
import Derived.Test.YtikandlenlhdkaaPFnExactBitRunsx3
import Derived.Test.YtikandlenlhdkaaHlp
import Derived.Test.YtikandlenlhdkaaHlp2
namespace Go.Proofs.Ytikandlenlhdkaa.Pure
open Go.RowKit Go.Proofs.Ytikandlenlhdkaa.PFnExactBitRuns Go.Proofs.YtikandlenlhdkaaW.PrintWords Go.Proofs.YtikandlenlhdkaaW.PrintLast Go.Proofs.YtikandlenlhdkaaW.PrintMore Go.Proofs.Ytikandlenlhdkaa.Hlp
namespace BR
/-- What both say. -/
def bitOf (l : List Int) (i : Int) : Bool := decide (l.length ≤ 2048 ∧ 0 ≤ i ∧ i < 8 * l.length) && ((rd l (i / 8) / 2 ^ (i % 8).toNat) % 2 == 1)
theorem half_ev (n : Nat) : ∀ x : Int, 0 ≤ x → x ≤ 255 → n < 8 → Ev (fun k => spec_BitGet.l0 k x (n : Int)) ((x / 2 ^ n) % 2 == 1) := by
  induction n with
  | zero =>
    intro x h0 h1 _
    refine Ev.step (f := fun _ => some ((x / 2 ^ 0) % 2 == 1)) (fun k => ?_) (Ev.now _)
    simp only [spec_BitGet.l0]; rw [if_neg (by omega), Int.tmod_eq_emod_of_nonneg h0]; simp
  | succ n ih =>
    intro x h0 h1 hn
    refine Ev.step (f := fun k => spec_BitGet.l0 k (x / 2) (n : Int)) (fun k => ?_) ?_
    · simp only [spec_BitGet.l0]
      rw [if_pos (by omega), w64 (by omega) (by omega), Int.tdiv_eq_ediv_of_nonneg h0, show (x / 2) % 256 = x / 2 by omega]
      congr 1; omega
    · have h := ih (x / 2) (by omega) (by omega) (by omega)
      have e : x / 2 / 2 ^ n = x / 2 ^ (n + 1) := by
        rw [Int.ediv_ediv_of_nonneg (by omega), Int.pow_succ, Int.mul_comm]
      rwa [e] at h
theorem specBit_ev (l : List Int) (i : Int) (hb : ∀ x ∈ l, 0 ≤ x ∧ x ≤ 255) (hl : l.length ≤ 281474976710656) : Ev (fun k => spec_BitGet.f k l i) (bitOf l i) := by
  have hj : ∀ k b, spec_BitGet.j0 (k + 1) l i b = if b = true then (some false) else (if 0 ≤ (wrap64 (Int.tdiv i 8)) then (if (wrap64 (Int.tdiv i 8)) < (l.length : Int) then (spec_BitGet.l0 k (rd l (wrap64 (Int.tdiv i 8))) (Int.tmod i 8)) else (none)) else (none)) := fun _ _ => rfl
  by_cases h1 : (l.length : Int) > 2048
  · have : bitOf l i = false := by unfold bitOf; rw [decide_eq_false (by omega)]; rfl
    rw [this]
    refine Ev.step (f := fun _ => some false) (fun k => ?_) (Ev.now _)
    unfold spec_BitGet.f; rw [if_pos h1, hj, if_pos rfl]
  by_cases h2 : i < 0
  · have : bitOf l i = false := by unfold bitOf; rw [decide_eq_false (by omega)]; rfl
    rw [this]
    refine Ev.step (f := fun _ => some false) (fun k => ?_) (Ev.now _)
    unfold spec_BitGet.f; rw [if_neg h1, if_pos h2, hj, if_pos rfl]
  have w : wrap64 (8 * (l.length : Int)) = 8 * (l.length : Int) := w64 (by omega) (by omega)
  by_cases h3 : i ≥ 8 * (l.length : Int)
  · have : bitOf l i = false := by unfold bitOf; rw [decide_eq_false (by omega)]; rfl
    rw [this]
    refine Ev.step (f := fun _ => some false) (fun k => ?_) (Ev.now _)
    unfold spec_BitGet.f; rw [if_neg h1, if_neg h2, w, hj, if_pos (decide_eq_true h3)]
  · have hd : wrap64 (Int.tdiv i 8) = i / 8 := by rw [Int.tdiv_eq_ediv_of_nonneg (by omega)]; exact w64 (by omega) (by omega)
    have hm : Int.tmod i 8 = ((i % 8).toNat : Int) := by rw [Int.tmod_eq_emod_of_nonneg (by omega)]; omega
    have hr := hb _ (rd_mem (l := l) (i := i / 8) (by omega) (by omega))
    have : bitOf l i = ((rd l (i / 8) / 2 ^ (i % 8).toNat) % 2 == 1) := by unfold bitOf; rw [decide_eq_true (by omega)]; rfl
    rw [this]
    refine Ev.step (f := fun k => spec_BitGet.l0 k (rd l (i / 8)) ((i % 8).toNat : Int)) (fun k => ?_) (half_ev _ _ hr.1 hr.2 (by omega))
    unfold spec_BitGet.f; rw [if_neg h1, if_neg h2, w, hj, if_neg (by simpa using h3), hd, hm, if_pos (by omega), if_pos (by omega)]
theorem implBit (l : List Int) (i : Int) (hb : ∀ x ∈ l, 0 ≤ x ∧ x ≤ 255) (hl : l.length ≤ 281474976710656) : impl_BitGet.f l i = some (bitOf l i) := by
  unfold impl_BitGet.f impl_bitlen.f
  by_cases h2 : i ≥ 0
  rotate_left
  · have : bitOf l i = false := by unfold bitOf; rw [decide_eq_false (by omega)]; rfl
    rw [if_neg h2, this]
  rw [if_pos h2]
  by_cases h1 : (l.length : Int) > 2048
  · have : bitOf l i = false := by unfold bitOf; rw [decide_eq_false (by omega)]; rfl
    rw [if_pos h1, this]; simp only [Option.bind_some]; rw [if_neg (by omega)]
  rw [if_neg h1, w64 (by omega) (by omega)]; simp only [Option.bind_some]
  by_cases h3 : i < (l.length : Int) * 8
  rotate_left
  · have : bitOf l i = false := by unfold bitOf; rw [decide_eq_false (by omega)]; rfl
    rw [if_neg h3, this]
  have hd : wrap64 (Int.tdiv i 8) = i / 8 := by rw [Int.tdiv_eq_ediv_of_nonneg (by omega)]; exact w64 (by omega) (by omega)
  have hm : Int.tmod i 8 = ((i % 8).toNat : Int) := by rw [Int.tmod_eq_emod_of_nonneg (by omega)]; omega
  have hr := hb _ (rd_mem (l := l) (i := i / 8) (by omega) (by omega))
  have : bitOf l i = ((rd l (i / 8) / 2 ^ (i % 8).toNat) % 2 == 1) := by unfold bitOf; rw [decide_eq_true (by omega)]; rfl
  have hp : (0 : Int) < 2 ^ (i % 8).toNat := Int.pow_pos (by decide)
  have hs : shr .u8 (rd l (i / 8)) ((i % 8).toNat : Int) = rd l (i / 8) / 2 ^ (i % 8).toNat := by
    unfold shr; rw [Int.toNat_natCast, Nat.min_eq_left (by simp only [IntKind.bits]; omega)]
  have hq : rd l (i / 8) / 2 ^ (i % 8).toNat ≤ rd l (i / 8) := Int.ediv_le_self _ hr.1
  rw [if_pos h3, hd, hm, if_pos (by omega), if_pos (by omega), if_pos (by omega), hs, u8_and1 _ (Int.ediv_nonneg hr.1 (Int.le_of_lt hp)) (by omega), this]
def blen (l : List Int) : Int := if (l.length : Int) > 2048 then 0 else 8 * l.length
theorem blen_bd (l : List Int) : 0 ≤ blen l ∧ blen l ≤ 16384 := by unfold blen; split <;> omega
theorem bitlen_eq (l : List Int) (hl : l.length ≤ 281474976710656) : impl_bitlen.f l = some (blen l) := by
  unfold impl_bitlen.f blen; split
  · rfl
  · rw [w64 (by omega) (by omega), Int.mul_comm]
theorem within_eq (l : List Int) (a b : Int) (hl : l.length ≤ 281474976710656) : spec_l8Within.f l a b = some (max 0 a, min (blen l) b) := by
  unfold spec_l8Within.f blen mx mn
  by_cases h : (l.length : Int) > 2048
  · rw [if_pos h, if_pos h]; congr 2 <;> (split <;> omega)
  · rw [if_neg h, if_neg h, w64 (by omega) (by omega)]; congr 2 <;> (split <;> omega)
theorem mn_eq (a b : Int) : mn a b = min a b := by unfold mn; split <;> omega
theorem mx_eq (a b : Int) : mx a b = max a b := by unfold mx; split <;> omega
theorem on_bit (l : List Int) (i : Nat) (hb : ∀ x ∈ l, 0 ≤ x ∧ x ≤ 255) (hl : l.length ≤ 281474976710656) : brOn l i = bitOf l (i : Int) := by
  unfold brOn; rw [implBit l _ hb hl]; rfl
theorem brLen_eq (l : List Int) : brLen l = blen l := rfl
theorem brUp_bd (l : List Int) (lo : Nat) : ∀ n x, x ∈ brUp l lo n → 0 ≤ x.f0 ∧ 1 ≤ x.f1 ∧ x.f0 + x.f1 ≤ ((lo + n : Nat) : Int)
  | 0, x, h => by simp [brUp] at h
  | n + 1, x, h => by
    have ih := brUp_bd l lo n
    simp only [brUp] at h
    unfold brStep at h
    split at h
    · have := ih x h; omega
    · split at h
      · rename_i y hy
        have hy' := ih y (List.mem_of_getLast? hy)
        split at h
        · rcases List.mem_append.1 h with h | h
          · have := ih x ((List.dropLast_sublist _).subset h); omega
          · simp only [List.mem_singleton] at h; subst h; simp only; omega
        · rcases List.mem_append.1 h with h | h
          · have := ih x h; omega
          · simp only [List.mem_singleton] at h; subst h; simp only; omega
      · rcases List.mem_append.1 h with h | h
        · have := ih x h; omega
        · simp only [List.mem_singleton] at h; subst h; simp only; omega
theorem rd35 (x : List S35) (i : Nat) (h : i < x.length) : rd_T35 x (i : Int) = x[i] := by unfold rd_T35; simp [h]
theorem spec_loop (l : List Int) (lo : Nat) (hi : Int) (hb : ∀ x ∈ l, 0 ≤ x ∧ x ≤ 255) (hl : l.length ≤ 281474976710656) (hhi : hi ≤ 16384) : ∀ (d i : Nat), lo ≤ i → (hi - i).toNat = d → ((i : Int) ≤ hi ∨ i = lo) → Ev (fun k => spec_BitRuns.l0 k l hi (brUp l lo (i - lo)) (i : Int)) (brUp l lo (hi.toNat - lo)) := by
  intro d
  induction d with
  | zero =>
    intro i h0 hd hi2
    refine Ev.step (f := fun _ => some (brUp l lo (i - lo))) (fun k => by simp only [spec_BitRuns.l0]; rw [if_neg (by omega)]) ?_
    rw [show hi.toNat - lo = i - lo by omega]
    exact Ev.now _
  | succ d ih =>
    intro i h0 hd hi2
    have hlt : (i : Int) < hi := by omega
    have hw : wrap64 ((i : Int) + 1) = ((i + 1 : Nat) : Int) := by rw [w64 (by omega) (by omega)]; rfl
    have hs := specBit_ev l (i : Int) hb hl
    have nx := ih (i + 1) (by omega) (by omega) (by omega)
    have eup : brUp l lo (i + 1 - lo) = brStep l (brUp l lo (i - lo)) i := by
      rw [show i + 1 - lo = (i - lo) + 1 by omega, brUp, show lo + (i - lo) = i by omega]
    rw [eup] at nx
    have hlen := brUp_len l lo (i - lo)
    have hbd := brUp_bd l lo (i - lo)
    generalize brUp l lo (i - lo) = acc at nx hlen hbd ⊢
    unfold brStep at nx
    rw [on_bit l i hb hl] at nx
    refine Ev.step (f := fun k => (spec_BitGet.f k l (i : Int)).bind fun t107 => (if t107 = true then (spec_BitRuns.l0 k l hi acc ((i + 1 : Nat) : Int)) else (if (acc.length : Int) > 0 then (if 0 ≤ (wrap64 ((acc.length : Int) - 1)) then (if (wrap64 ((acc.length : Int) - 1)) < (acc.length : Int) then (if (wrap64 (((rd_T35 acc (wrap64 ((acc.length : Int) - 1))).f0) + ((rd_T35 acc (wrap64 ((acc.length : Int) - 1))).f1))) = (i : Int) then (spec_BitRuns.l0 k l hi (acc.set ((wrap64 ((acc.length : Int) - 1)) : Int).toNat (⟨(rd_T35 acc (wrap64 ((acc.length : Int) - 1))).f0, wrap64 (((rd_T35 acc (wrap64 ((acc.length : Int) - 1))).f1) + 1)⟩ : S35)) ((i + 1 : Nat) : Int)) else (if acc.length < 8796093022208 then (spec_BitRuns.l0 k l hi (acc ++ [(⟨(i : Int), 1⟩ : S35)]) ((i + 1 : Nat) : Int)) else (none))) else (none)) else (none)) else (if acc.length < 8796093022208 then (spec_BitRuns.l0 k l hi (acc ++ [(⟨(i : Int), 1⟩ : S35)]) ((i + 1 : Nat) : Int)) else (none))))) (fun k => by simp only [spec_BitRuns.l0]; rw [if_pos hlt, hw]) (hs.bind ?_)
    cases hbit : bitOf l (i : Int) with
    | true =>
      rw [hbit, if_pos rfl] at nx
      exact Ev.congr (fun k => if_pos rfl) nx
    | false =>
      rw [hbit, if_neg (by simp)] at nx
      refine Ev.congr (fun k => if_neg (by simp)) ?_
      cases hg : acc.getLast? with
      | none =>
        rw [hg] at nx
        obtain rfl := List.getLast?_eq_none_iff.1 hg
        exact Ev.congr (fun k => by rw [if_neg (by simp), if_pos (by simp)]) nx
      | some x =>
        rw [hg] at nx
        simp only at nx
        have hx := hbd x (List.mem_of_getLast? hg)
        obtain ⟨ys, rfl⟩ := List.getLast?_eq_some_iff.1 hg
        have e1 : ((ys ++ [x]).length : Int) = (ys.length : Int) + 1 := by simp
        have hll : (ys ++ [x]).length < 8796093022208 := by have : (ys ++ [x]).length ≤ i - lo := hlen; omega
        have hyl : ys.length ≤ 16384 := by have : (ys ++ [x]).length ≤ i - lo := hlen; rw [List.length_append] at this; omega
        have e2 : wrap64 (((ys ++ [x]).length : Int) - 1) = (ys.length : Int) := by rw [e1, w64 (by omega) (by omega)]; omega
        have e3 : rd_T35 (ys ++ [x]) (ys.length : Int) = x := by rw [rd35 _ ys.length (by simp)]; simp
        have e4 : wrap64 (x.f0 + x.f1) = x.f0 + x.f1 := w64 (by omega) (by omega)
        have e5 : wrap64 (x.f1 + 1) = x.f1 + 1 := w64 (by omega) (by omega)
        refine Ev.congr (f := fun k => if x.f0 + x.f1 = (i : Int) then spec_BitRuns.l0 k l hi (ys ++ [⟨x.f0, x.f1 + 1⟩]) ((i + 1 : Nat) : Int) else spec_BitRuns.l0 k l hi (ys ++ [x] ++ [(⟨(i : Int), 1⟩ : S35)]) ((i + 1 : Nat) : Int)) (fun k => ?_) ?_
        · rw [if_pos (by omega), e2, if_pos (by omega), if_pos (by omega), e3, e4, e5, if_pos hll, Int.toNat_natCast, List.set_append_right _ _ (Nat.le_refl _), Nat.sub_self, List.set_cons_zero]
        · by_cases c : x.f0 + x.f1 = (i : Int)
          · rw [if_pos c, List.dropLast_concat] at nx
            exact Ev.congr (fun k => if_pos c) nx
          · rw [if_neg c] at nx
            exact Ev.congr (fun k => if_neg c) nx
theorem both (l : List Int) (a b : Int) (hb : ∀ x ∈ l, 0 ≤ x ∧ x ≤ 255) (hl : l.length ≤ 1048576) (wa : -9223372036854775808 ≤ a ∧ a ≤ 9223372036854775807) (wb : -9223372036854775808 ≤ b ∧ b ≤ 9223372036854775807) : ∃ r, r.length ≤ 16384 ∧ Ev (fun k => spec_BitRuns.f k l a b) r ∧ impl_BitRuns.f l a b = some r := by
  have hbl := blen_bd l
  have hlo : max 0 a = ((max a 0).toNat : Int) := by omega
  refine ⟨brUp l (max a 0).toNat ((min b (brLen l)).toNat - (max a 0).toNat), ?_, ?_, ?_⟩
  · have h := brUp_len l (max a 0).toNat ((min b (brLen l)).toNat - (max a 0).toNat)
    rw [brLen_eq] at h ⊢
    omega
  · refine Ev.congr (fun k => by unfold spec_BitRuns.f; rw [within_eq l a b (by omega), Option.bind_some]) ?_
    have h := spec_loop l (max a 0).toNat (min b (brLen l)) hb (by omega) (by rw [brLen_eq]; omega) _ (max a 0).toNat (Nat.le_refl _) rfl (.inr rfl)
    rw [Nat.sub_self, show brUp l (max a 0).toNat 0 = [] from rfl] at h
    simp only
    rw [hlo, show min (blen l) b = min b (brLen l) by rw [brLen_eq]; omega]
    exact h
  · unfold impl_BitRuns.f
    rw [if_pos (by omega)]
theorem eqSp (l : List S35) (hl : l.length ≤ 16384) : Ev (fun k => laws_eqFreeRunS.f k l l) true := by
  have key : Ev (fun k => laws_eqFreeRunS.l0 k l l ((0 : Nat) : Int)) true := by
    refine down (P := fun i => Ev (fun k => laws_eqFreeRunS.l0 k l l (i : Int)) true) l.length ?_ ?_
    · exact Ev.step (f := fun _ => some true) (fun k => by simp only [laws_eqFreeRunS.l0]; rw [if_neg (by omega)]) (Ev.now _)
    · intro i hi h
      refine Ev.step (fun k => ?_) h
      simp only [laws_eqFreeRunS.l0, laws_eqFreeRun.f]
      rw [if_pos (by omega), if_pos (by omega), if_pos (by omega), w64 (by omega) (by omega)]
      simp
  exact Ev.congr (fun k => by unfold laws_eqFreeRunS.f; rw [if_pos rfl]; rfl) key
def mkS (_ : S35) (s : Int) : S35 := ⟨s, s + 1⟩
theorem markSp (l : List S35) (hl : l.length ≤ 16384) : Ev (fun k => laws_markFreeRunS.f k l 1) (1 + (2 * l.length : Nat), marksG mkS 2 1 l) := by
  refine markG_ev mkS 2 (L := laws_markFreeRunS.l0) 4194304 ?_ ?_ l 1 (by omega) (by omega) (by omega)
  · intro i x s hi hx h0 hs r h
    have hw : wrap64 ((i : Int) + 1) = ((i + 1 : Nat) : Int) := by rw [w64 (by omega) (by omega)]; rfl
    have h1 : wrap64 (s + 1) = s + 1 := w64 (by omega) (by omega)
    have h2 : wrap64 (s + 1 + 1) = s + ((2 : Nat) : Int) := by rw [w64 (by omega) (by omega)]; omega
    refine Ev.step (fun k => ?_) h
    simp only [laws_markFreeRunS.l0, Option.bind_some]
    rw [if_pos (by omega), if_pos (by omega), hw, h1, h2, Int.toNat_natCast]
    have q : ∀ (y : List S35) (e : S35), i < y.length → rd_T35 (y.set i e) (i : Int) = e := fun y e hy => by
      rw [rd35 _ i (by simpa using hy), List.getElem_set]; simp
    simp only [List.set_set, q x _ hi]
    rfl
  · intro x s
    exact Ev.step (f := fun _ => some (s, x)) (fun k => by simp only [laws_markFreeRunS.l0]; rw [if_neg (by omega)]) (Ev.now _)
theorem heldSp (l : List S35) (hl : l.length ≤ 16384) : Ev (fun k => laws_heldFreeRunS.f k (marksG mkS 2 1 l) 1) (1 + (2 * l.length : Nat)) := by
  refine heldG_ev mkS 2 (L := laws_heldFreeRunS.l0) 4194304 ?_ ?_ l 1 (by omega) (by omega) (by omega)
  · intro i x s b hi hxi hx h0 hs r h
    have hw : wrap64 ((i : Int) + 1) = ((i + 1 : Nat) : Int) := by rw [w64 (by omega) (by omega)]; rfl
    have h1 : wrap64 (s + 1) = s + 1 := w64 (by omega) (by omega)
    have h2 : wrap64 (s + 1 + 1) = s + ((2 : Nat) : Int) := by rw [w64 (by omega) (by omega)]; omega
    refine Ev.step (fun k => ?_) h
    simp only [laws_heldFreeRunS.l0]
    rw [if_pos (by omega), if_pos (by omega), rd35 x i hi, hxi, hw, h1, h2]
    simp [mkS]
  · intro x s
    exact Ev.step (f := fun _ => some s) (fun k => by simp only [laws_heldFreeRunS.l0]; rw [if_neg (by omega)]) (Ev.now _)
end BR
theorem FnExactBitRuns : laws_FnExactBitRuns.Pure := by
  intro l a b _ hl hb wa wb
  by_cases h : (l.length : Int) > 1048576
  · exact ⟨0, by unfold laws_FnExactBitRuns.f; rw [if_pos h]⟩
  have hb' : ∀ x ∈ l, 0 ≤ x ∧ x ≤ 255 := fun x hx => wfb (hb x hx)
  have t := toS_ev (F := laws_toByteS.f) (fun _ _ => rfl) (fun _ _ _ _ => rfl) l (by omega) (by omega)
  have e := eqS_ev (F := laws_eqByteS.f) (fun _ _ _ => rfl) (fun _ _ _ _ => rfl) l (by omega)
  have mb : Ev (fun k => laws_markByteS.f k l 1) (1 + l.length, marks (fun x => x % 256) 1 l.length) := mark_ev (fun x => x % 256) (L := laws_markByteS.l0) (fun _ _ _ _ => rfl) l 1 (by omega) (by omega)
  obtain ⟨r, hr, s, i⟩ := BR.both l a b hb' (by omega) (wfi wa) (wfi wb)
  have ie : Ev (fun _ => impl_BitRuns.f l a b) r := Ev.at (fun _ => i)
  have q := BR.eqSp r hr
  have m := BR.markSp r hr
  have hd := BR.heldSp r hr
  refine Ev.rounds (Ev.congr (fun k => by unfold laws_FnExactBitRuns.f; rw [if_neg h]) ?_)
  refine t.bind (s.bind (t.bind (ie.bind (q.bind (Ev.congr (fun k => if_pos rfl) ?_)))))
  refine t.bind (e.bind (Ev.congr (fun k => if_pos rfl) ?_))
  refine mb.bind (Ev.congr (fun k => if_neg (by omega)) ?_)
  refine q.bind ?_
  refine Ev.step (fun k => by rw [laws_FnExactBitRuns.j0, if_neg (by simp)]) ?_
  refine m.bind (hd.bind (Ev.congr (fun k => if_neg (by omega)) (Ev.congr (fun k => if_pos rfl) ?_)))
  refine t.bind (ie.bind (q.bind (Ev.congr (fun k => if_pos rfl) ?_)))
  exact hd.bind (Ev.congr (fun k => if_neg (by omega)) (Ev.congr (fun k => if_pos rfl) (Ev.now true)))
end Go.Proofs.Ytikandlenlhdkaa.Pure
