/- FnExactEncodePointers: at every list of numbers the program's EncodePointers returns what the reference's returns, in memory of its own, and the numbers stay as they were. -/
import Derived.Test.YtplefdkookhlhaaPFnExactEncodePointersx
import Derived.Test.YtplefdkookhlhaaHlp
namespace Go.Proofs.Ytplefdkookhlhaa.Pure
open Go.RowKit Go.Proofs.Ytplefdkookhlhaa.PFnExactEncodePointers Go.Proofs.YtplefdkookhlhaaW.PrintWords Go.Proofs.YtplefdkookhlhaaW.PrintLast Go.Proofs.YtplefdkookhlhaaW.PrintMore Go.Proofs.Ytplefdkookhlhaa.Hlp
namespace EP
/-- n bytes of v, the greatest first. -/
def be : Nat → Int → List Int
  | 0, _ => []
  | n + 1, v => be n (v / 256) ++ [v % 256]
theorem be_len : ∀ (n : Nat) (v : Int), (be n v).length = n
  | 0, _ => rfl
  | n + 1, v => by simp [be, be_len n]
/-- What both say. -/
def putOf (v n : Int) : List Int := if n < 1 ∨ n > 8 ∨ v < 0 ∨ v / 256 ^ n.toNat > 0 then [] else be n.toNat v
theorem putOf_len (v n : Int) : (putOf v n).length ≤ 8 := by
  unfold putOf; split
  · simp
  · rw [be_len]; omega
theorem div_pow (v : Int) (d : Nat) : v / 256 / 256 ^ d = v / 256 ^ (d + 1) := by
  rw [Int.ediv_ediv_of_nonneg (by omega), Int.pow_succ, Int.mul_comm]
theorem putSpec_loop (n : Int) (hn : n ≤ 8) (d : Nat) : ∀ (v : Int) (i : Nat) (out : List Int), 0 ≤ v → v ≤ 9223372036854775807 → (i : Int) + d = n → out.length = i →
    Ev (fun k => spec_PutNumber.l0 k v n out (i : Int)) (if v / 256 ^ d > 0 then [] else be d v ++ out) := by
  induction d with
  | zero =>
    intro v i out h0 h1 hi hl
    refine Ev.step (f := fun _ => some (if v / 256 ^ 0 > 0 then [] else be 0 v ++ out)) (fun k => ?_) (Ev.now _)
    simp only [spec_PutNumber.l0]
    rw [if_neg (by omega), show v / 256 ^ 0 = v by simp]
    by_cases h : v > 0
    · rw [if_pos h, if_pos h]
    · rw [if_neg h, if_neg h]; rfl
  | succ d ih =>
    intro v i out h0 h1 hi hl
    have h := ih (v / 256) (i + 1) ([v % 256] ++ out) (by omega) (by omega) (by omega) (by simp only [List.length_append, List.length_cons, List.length_nil]; omega)
    rw [div_pow] at h
    refine Ev.step (f := fun k => spec_PutNumber.l0 k (v / 256) n ([v % 256] ++ out) ((i + 1 : Nat) : Int)) (fun k => ?_) ?_
    · simp only [spec_PutNumber.l0, Option.bind_some]
      rw [if_pos (by omega), if_pos (by simp [hl]; omega), Int.tmod_eq_emod_of_nonneg h0, Int.tdiv_eq_ediv_of_nonneg h0, w64 (by omega) (by omega), w64 (by omega) (by omega), show v % 256 % 256 = v % 256 by omega]; rfl
    · rwa [show be (d + 1) v ++ out = be d (v / 256) ++ ([v % 256] ++ out) by simp [be]]
theorem putSpec_ev (v n : Int) (hv : v ≤ 9223372036854775807) : Ev (fun k => spec_PutNumber.f k v n) (putOf v n) := by
  have hj : ∀ k b, spec_PutNumber.j0 (k + 1) v n b = if b = true then (some (([] : List Int))) else (spec_PutNumber.l0 k v n (([] : List Int)) 0) := fun _ _ => rfl
  by_cases c1 : n < 1
  · have : putOf v n = [] := by unfold putOf; rw [if_pos (.inl c1)]
    rw [this]
    exact Ev.step (f := fun _ => some []) (fun k => by unfold spec_PutNumber.f; rw [if_pos c1, hj, if_pos rfl]) (Ev.now _)
  by_cases c2 : n > 8
  · have : putOf v n = [] := by unfold putOf; rw [if_pos (.inr (.inl c2))]
    rw [this]
    exact Ev.step (f := fun _ => some []) (fun k => by unfold spec_PutNumber.f; rw [if_neg c1, if_pos c2, hj, if_pos rfl]) (Ev.now _)
  by_cases c3 : v < 0
  · have : putOf v n = [] := by unfold putOf; rw [if_pos (.inr (.inr (.inl c3)))]
    rw [this]
    exact Ev.step (f := fun _ => some []) (fun k => by unfold spec_PutNumber.f; rw [if_neg c1, if_neg c2, hj, if_pos (decide_eq_true c3)]) (Ev.now _)
  have h := putSpec_loop n (by omega) n.toNat v 0 [] (by omega) hv (by omega) rfl
  have e : putOf v n = if v / 256 ^ n.toNat > 0 then [] else be n.toNat v ++ [] := by
    unfold putOf
    by_cases c : v / 256 ^ n.toNat > 0
    · rw [if_pos (.inr (.inr (.inr c))), if_pos c]
    · rw [if_neg (by omega), if_neg c]; simp
  rw [e]
  exact Ev.step (fun k => by unfold spec_PutNumber.f; rw [if_neg c1, if_neg c2, hj, if_neg (by simpa using c3)]) (show Ev (fun k => spec_PutNumber.l0 k v n [] 0) _ from h)
theorem be_get : ∀ (n : Nat) (v : Int) (i : Nat) (h : i < (be n v).length), (be n v)[i] = v / 256 ^ (n - 1 - i) % 256
  | 0, _, i, h => by simp [be] at h
  | n + 1, v, i, h => by
    have hl := be_len n (v / 256)
    by_cases hi : i < n
    · simp only [be]
      rw [List.getElem_append_left (by omega), be_get n (v / 256) i (by omega), div_pow, show n - 1 - i + 1 = n + 1 - 1 - i by omega]
    · have hi' : i = n := by simp [be, hl] at h; omega
      subst hi'
      simp only [be]
      rw [List.getElem_append_right (by omega)]
      simp [hl]
theorem pow8 (m : Nat) : (2 : Int) ^ (8 * m) = 256 ^ m := by rw [Int.pow_mul]; rfl
theorem shr8 (v : Int) (m : Nat) (hm : m ≤ 8) : shr .i64 v ((8 * m : Nat) : Int) = v / 256 ^ m := by
  unfold shr; rw [Int.toNat_natCast, Nat.min_eq_left (by simp only [IntKind.bits]; omega), pow8]
theorem putImpl_loop (v : Int) (n : Nat) (hn : n ≤ 8) : Ev (fun k => impl_PutNumber.l0 k v (n : Int) (List.replicate n 0) (n : Int) 0) (be n v) := by
  have h := fill_ev (L := fun k x i => impl_PutNumber.l0 k v (n : Int) x (n : Int) i) (List.range n) (fun i => v / 256 ^ (n - 1 - i) % 256)
    (fun i x h hx r hr => by
      simp only [List.length_range] at h hx
      refine Ev.step (fun k => ?_) hr
      simp only [impl_PutNumber.l0]
      have e : wrap64 (8 * (wrap64 ((wrap64 ((n : Int) - 1)) - i))) = ((8 * (n - 1 - i) : Nat) : Int) := by
        rw [w64 (x := (n : Int) - 1) (by omega) (by omega), w64 (x := (n : Int) - 1 - i) (by omega) (by omega), w64 (by omega) (by omega)]; omega
      rw [if_pos (by omega), e, if_pos (by omega), if_pos (by omega), if_pos (by omega), shr8 _ _ (by omega), w64 (by omega) (by omega)]
      simp)
    (fun x hx => by
      simp only [List.length_range] at hx ⊢
      exact Ev.step (f := fun _ => some x) (fun k => by simp only [impl_PutNumber.l0]; rw [if_neg (by omega)]) (Ev.now _))
    (List.replicate n 0) (by simp)
  have e : (List.range n).map (fun i => v / 256 ^ (n - 1 - i) % 256) = be n v := by
    apply List.ext_getElem
    · simp [be_len]
    · intro i h1 h2
      rw [be_get]; simp
  rwa [e] at h
theorem lt256 (v : Int) (h0 : 0 ≤ v) (h1 : v ≤ 9223372036854775807) : v / 256 ^ 8 = 0 := by
  have : (256 : Int) ^ 8 = 18446744073709551616 := by decide
  rw [this]; omega
theorem putImpl_ev (v n : Int) (hv : v ≤ 9223372036854775807) : Ev (fun k => impl_PutNumber.f k v n) (putOf v n) := by
  have hj : ∀ k b, impl_PutNumber.j0 (k + 1) v n b = if b = true then (some ([] : List Int)) else (if 0 ≤ n then (if (n : Int).toNat ≤ 281474976710656 then ((some (List.replicate (n : Int).toNat 0 : List Int)).bind fun y116 => (impl_PutNumber.l0 k v n y116 (y116.length : Int) 0)) else (none)) else (none)) := fun _ _ => rfl
  by_cases c1 : n < 1
  · have : putOf v n = [] := by unfold putOf; rw [if_pos (.inl c1)]
    rw [this]
    exact Ev.step (f := fun _ => some []) (fun k => by unfold impl_PutNumber.f; rw [if_pos c1, hj, if_pos rfl]) (Ev.now _)
  by_cases c2 : n > 8
  · have : putOf v n = [] := by unfold putOf; rw [if_pos (.inr (.inl c2))]
    rw [this]
    exact Ev.step (f := fun _ => some []) (fun k => by unfold impl_PutNumber.f; rw [if_neg c1, if_pos c2, hj, if_pos rfl]) (Ev.now _)
  by_cases c3 : v < 0
  · have : putOf v n = [] := by unfold putOf; rw [if_pos (.inr (.inr (.inl c3)))]
    rw [this]
    exact Ev.step (f := fun _ => some []) (fun k => by unfold impl_PutNumber.f; rw [if_neg c1, if_neg c2, if_pos c3, hj, if_pos rfl]) (Ev.now _)
  obtain ⟨m, rfl⟩ := Int.eq_ofNat_of_zero_le (show 0 ≤ n by omega)
  have hloop : ∀ b, b = false → Ev (fun k => impl_PutNumber.j0 k v (m : Int) b) (be m v) := fun b hb => by
    refine Ev.step (f := fun k => impl_PutNumber.l0 k v (m : Int) (List.replicate m 0) (m : Int) 0) (fun k => ?_) (putImpl_loop v m (by omega))
    rw [hj, if_neg (by simp [hb]), if_pos (by omega), if_pos (by simp; omega)]; simp
  by_cases c4 : (m : Int) < 8
  · have e8 : wrap64 (8 * (m : Int)) = ((8 * m : Nat) : Int) := by rw [w64 (by omega) (by omega)]; omega
    have hd : 0 ≤ v / 256 ^ m := Int.ediv_nonneg (by omega) (Int.le_of_lt (Int.pow_pos (by decide)))
    by_cases c5 : v / 256 ^ m > 0
    · have : putOf v m = [] := by unfold putOf; rw [if_pos (.inr (.inr (.inr (by simpa using c5))))]
      rw [this]
      exact Ev.step (f := fun _ => some []) (fun k => by unfold impl_PutNumber.f; rw [if_neg c1, if_neg c2, if_neg c3, if_pos c4, e8, if_pos (by omega), shr8 _ _ (by omega), hj, if_pos (by simp; omega)]) (Ev.now _)
    · have : putOf v m = be m v := by unfold putOf; rw [if_neg (by simp; omega)]; simp
      rw [this]
      exact Ev.congr (fun k => by unfold impl_PutNumber.f; rw [if_neg c1, if_neg c2, if_neg c3, if_pos c4, e8, if_pos (by omega), shr8 _ _ (by omega)]) (hloop _ (by simp; omega))
  · have hm8 : m = 8 := by omega
    have : putOf v m = be m v := by
      unfold putOf; rw [if_neg (by subst hm8; have := lt256 v (by omega) hv; simp only [Int.toNat_natCast]; omega)]; simp
    rw [this]
    exact Ev.congr (fun k => by unfold impl_PutNumber.f; rw [if_neg c1, if_neg c2, if_neg c3, if_neg c4]) (hloop _ rfl)
theorem put_ev (b : List Int) (p : Nat) (v n : Int) (hv : v ≤ 9223372036854775807) (hp : p ≤ b.length) : Ev (fun k => impl_put.f k b (p : Int) v n) (splice b p ((putOf v n).take (b.length - p))) := by
  unfold impl_put.f
  refine (putImpl_ev v n hv).bind ?_
  exact Ev.congr (fun k => by rw [if_pos (by omega), if_pos (by omega), Int.toNat_natCast]) (Ev.now _)
theorem put_two (v : Int) (h0 : 0 ≤ v) (h1 : v < 65536) : putOf v 2 = be 2 v := by
  unfold putOf; rw [if_neg (by simp; omega)]; rfl
theorem splice_at (a z x : List Int) (h : x.length ≤ z.length) : splice (a ++ z) a.length (x.take ((a ++ z).length - a.length)) = (a ++ x) ++ z.drop x.length := by
  have e : x.take ((a ++ z).length - a.length) = x := List.take_of_length_le (by rw [List.length_append]; omega)
  rw [e]; unfold splice
  rw [List.take_left, List.drop_append]
  simp
/-- A number of two bytes, put behind what stands, ahead of zeros. -/
theorem put2_ev (a : List Int) (m : Nat) (p : Int) (v : Int) (h0 : 0 ≤ v) (h1 : v < 65536) (hp : p = (a.length : Int)) : Ev (fun k => impl_put.f k (a ++ List.replicate (m + 2) 0) p v 2) ((a ++ be 2 v) ++ List.replicate m 0) := by
  have h := put_ev (a ++ List.replicate (m + 2) 0) a.length v 2 (by omega) (by simp)
  rw [put_two v h0 h1, splice_at a _ _ (by rw [be_len]; simp), be_len] at h
  have e : (List.replicate (m + 2) (0 : Int)).drop 2 = List.replicate m 0 := by simp
  rw [e] at h
  rw [hp]; exact h
theorem loops (l : List Int) (hl : l.length = 32) (d : Nat) : ∀ (i : Nat) (a : List Int), i + d = 32 → a.length = 2 * i →
    ∃ r, Ev (fun k => spec_EncodePointers.l0 k l a (i : Int)) r ∧ Ev (fun k => impl_EncodePointers.l0 k (a ++ List.replicate (2 * d) 0) l (l.length : Int) (i : Int)) r ∧ r.length ≤ 64 := by
  induction d with
  | zero =>
    intro i a hi ha
    refine ⟨a, ?_, ?_, by omega⟩
    · exact Ev.step (f := fun _ => some a) (fun k => by simp only [spec_EncodePointers.l0]; rw [if_neg (by omega)]) (Ev.now _)
    · exact Ev.step (f := fun _ => some a) (fun k => by simp only [impl_EncodePointers.l0]; rw [if_neg (by omega)]; simp) (Ev.now _)
  | succ d ih =>
    intro i a hi ha
    have hw : wrap64 ((i : Int) + 1) = ((i + 1 : Nat) : Int) := by rw [w64 (by omega) (by omega)]; rfl
    by_cases hg : 0 ≤ rd l (i : Int) ∧ rd l (i : Int) < 2048
    · obtain ⟨r, h1, h2, h3⟩ := ih (i + 1) (a ++ be 2 (rd l (i : Int))) (by omega) (by rw [List.length_append, be_len]; omega)
      have e2 : putOf (rd l (i : Int)) 2 = be 2 (rd l (i : Int)) := put_two _ hg.1 (by omega)
      have hs := putSpec_ev (rd l (i : Int)) 2 (by omega)
      rw [e2] at hs
      refine ⟨r, ?_, ?_, h3⟩
      · refine Ev.step (f := fun k => (spec_PutNumber.f k (rd l (i : Int)) 2).bind fun t122 => (if a.length + t122.length < 140737488355328 then (spec_EncodePointers.l0 k l (a ++ t122) ((i + 1 : Nat) : Int)) else (none))) (fun k => ?_) ?_
        · simp only [spec_EncodePointers.l0, spec_l3GoodBlock.f]
          rw [if_pos (by omega), if_pos (by omega), if_pos hg.1, Option.bind_some, if_pos (by simp; omega), hw]
        · refine hs.bind ?_
          exact Ev.congr (fun k => if_pos (by rw [be_len]; omega)) h1
      · refine Ev.step (f := fun k => (impl_put.f k (a ++ List.replicate (2 * (d + 1)) 0) (wrap64 (2 * (i : Int))) (rd l (i : Int)) 2).bind fun t145 => (impl_EncodePointers.l0 k t145 l (l.length : Int) ((i + 1 : Nat) : Int))) (fun k => ?_) ?_
        · simp only [impl_EncodePointers.l0, impl_in.f]
          rw [if_pos (by omega), if_pos (by omega), if_pos (by omega), if_pos hg.1, Option.bind_some, if_pos (by simp; omega), hw]
        · have hp := put2_ev a (2 * d) (wrap64 (2 * (i : Int))) (rd l (i : Int)) hg.1 (by omega) (by rw [w64 (by omega) (by omega)]; omega)
          rw [show 2 * (d + 1) = 2 * d + 2 by omega]
          exact hp.bind h2
    · refine ⟨[], ?_, ?_, by simp⟩
      · refine Ev.step (f := fun _ => some []) (fun k => ?_) (Ev.now _)
        simp only [spec_EncodePointers.l0, spec_l3GoodBlock.f]
        rw [if_pos (by omega), if_pos (by omega)]
        by_cases c : rd l (i : Int) ≥ 0
        · rw [if_pos c, Option.bind_some, if_neg (by simp; omega)]
        · rw [if_neg c, Option.bind_some, if_neg (by simp)]
      · refine Ev.step (f := fun _ => some []) (fun k => ?_) (Ev.now _)
        simp only [impl_EncodePointers.l0, impl_in.f]
        rw [if_pos (by omega), if_pos (by omega), if_pos (by omega)]
        by_cases c : rd l (i : Int) ≥ 0
        · rw [if_pos c, Option.bind_some, if_neg (by simp; omega)]
        · rw [if_neg c, Option.bind_some, if_neg (by simp)]
theorem both (l : List Int) : ∃ r, Ev (fun k => spec_EncodePointers.f k l) r ∧ Ev (fun k => impl_EncodePointers.f k l) r ∧ r.length ≤ 64 := by
  by_cases h : l.length = 32
  · obtain ⟨r, h1, h2, h3⟩ := loops l h 32 0 [] rfl rfl
    refine ⟨r, ?_, ?_, h3⟩
    · exact Ev.congr (fun k => by unfold spec_EncodePointers.f; rw [Option.bind_some, if_pos (by omega)]) (show Ev (fun k => spec_EncodePointers.l0 k l [] 0) r from h1)
    · exact Ev.congr (fun k => by unfold impl_EncodePointers.f; rw [if_pos (by omega), if_pos (by omega)]) (show Ev (fun k => impl_EncodePointers.l0 k (List.replicate 64 0) l (l.length : Int) 0) r from h2)
  · refine ⟨[], ?_, ?_, by simp⟩
    · exact Ev.congr (fun k => by unfold spec_EncodePointers.f; rw [Option.bind_some, if_neg (by omega)]) (Ev.now _)
    · exact Ev.congr (fun k => by unfold impl_EncodePointers.f; rw [if_neg (by omega)]) (Ev.now _)
end EP
theorem FnExactEncodePointers : laws_FnExactEncodePointers.Pure := by
  intro l _ hl _
  by_cases h : (l.length : Int) > 1048576
  · exact ⟨0, by unfold laws_FnExactEncodePointers.f; rw [if_pos h]⟩
  have t := toS_ev (F := laws_toInt64S.f) (fun _ _ => rfl) (fun _ _ _ _ => rfl) l (by omega) (by omega)
  have et := eqS_ev (F := laws_eqInt64S.f) (fun _ _ _ => rfl) (fun _ _ _ _ => rfl) l (by omega)
  have mt : Ev (fun k => laws_markInt64S.f k l 1) _ := mark_ev (fun x => x) (L := laws_markInt64S.l0) (fun _ _ _ _ => rfl) l 1 (by omega) (by omega)
  obtain ⟨r, s, i, hr⟩ := EP.both l
  have e := eqS_ev (F := laws_eqByteS.f) (fun _ _ _ => rfl) (fun _ _ _ _ => rfl) r (by omega)
  have m : Ev (fun k => laws_markByteS.f k r 1) _ := mark_ev (fun x => x % 256) (L := laws_markByteS.l0) (fun _ _ _ _ => rfl) r 1 (by omega) (by omega)
  have hd : Ev (fun k => laws_heldByteS.f k _ 1) _ := held_ev (fun x => x % 256) (L := laws_heldByteS.l0) (fun _ _ _ _ => rfl) r.length 1 (by omega) (by omega)
  refine Ev.rounds (Ev.congr (fun k => by unfold laws_FnExactEncodePointers.f; rw [if_neg h]) ?_)
  refine t.bind ?_
  refine s.bind ?_
  refine t.bind ?_
  refine i.bind ?_
  refine e.bind ?_
  refine Ev.congr (fun k => if_pos rfl) ?_
  refine t.bind ?_
  refine et.bind ?_
  refine Ev.congr (fun k => if_pos rfl) ?_
  refine mt.bind ?_
  refine Ev.congr (fun k => if_neg (by simp only; omega)) ?_
  refine e.bind ?_
  refine Ev.step (fun k => by simp only [laws_FnExactEncodePointers.j0]; rw [if_neg (by decide)]) ?_
  refine m.bind ?_
  refine hd.bind ?_
  refine Ev.congr (fun k => if_neg (by omega)) ?_
  refine Ev.congr (fun k => if_pos rfl) ?_
  refine t.bind ?_
  refine i.bind ?_
  refine e.bind ?_
  refine Ev.congr (fun k => if_pos rfl) ?_
  refine hd.bind ?_
  refine Ev.congr (fun k => if_neg (by omega)) ?_
  exact Ev.congr (fun k => if_pos rfl) (Ev.now true)
end Go.Proofs.Ytplefdkookhlhaa.Pure
