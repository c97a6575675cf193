/- FnExactPutNumber: at every two numbers the program's PutNumber returns what the reference's returns, in memory of its own. -/
import Derived.Test.YtdhjhadcadcceaaPFnExactPutNumberx
import Derived.Test.YtdhjhadcadcceaaHlp
namespace Go.Proofs.Ytdhjhadcadcceaa.Pure
open Go.RowKit Go.Proofs.Ytdhjhadcadcceaa.PFnExactPutNumber Go.Proofs.YtdhjhadcadcceaaW.PrintWords Go.Proofs.YtdhjhadcadcceaaW.PrintLast Go.Proofs.YtdhjhadcadcceaaW.PrintMore Go.Proofs.Ytdhjhadcadcceaa.Hlp
namespace PN
/-- n bytes of v, the greatest first. -/
def be : Nat → Int → List Int
  | 0, _ => []
  | n + 1, v => be n (v / 256) ++ [v % 256]
theorem be_len : ∀ (n : Nat) (v : Int), (be n v).length = n
  | 0, _ => rfl
  | n + 1, v => by simp [be, be_len n]
/-- What both say. -/
def putOf (v n : Int) : List Int := if n < 1 ∨ n > 8 ∨ v < 0 ∨ v / 256 ^ n.toNat > 0 then [] else be n.toNat v
theorem putOf_len (v n : Int) : (putOf v n).length ≤ 8 := by
  unfold putOf; split
  · simp
  · rw [be_len]; omega
theorem div_pow (v : Int) (d : Nat) : v / 256 / 256 ^ d = v / 256 ^ (d + 1) := by
  rw [Int.ediv_ediv_of_nonneg (by omega), Int.pow_succ, Int.mul_comm]
theorem putSpec_loop (n : Int) (hn : n ≤ 8) (d : Nat) : ∀ (v : Int) (i : Nat) (out : List Int), 0 ≤ v → v ≤ 9223372036854775807 → (i : Int) + d = n → out.length = i →
    Ev (fun k => spec_PutNumber.l0 k v n out (i : Int)) (if v / 256 ^ d > 0 then [] else be d v ++ out) := by
  induction d with
  | zero =>
    intro v i out h0 h1 hi hl
    refine Ev.step (f := fun _ => some (if v / 256 ^ 0 > 0 then [] else be 0 v ++ out)) (fun k => ?_) (Ev.now _)
    simp only [spec_PutNumber.l0]
    rw [if_neg (by omega), show v / 256 ^ 0 = v by simp]
    by_cases h : v > 0
    · rw [if_pos h, if_pos h]
    · rw [if_neg h, if_neg h]; rfl
  | succ d ih =>
    intro v i out h0 h1 hi hl
    have h := ih (v / 256) (i + 1) ([v % 256] ++ out) (by omega) (by omega) (by omega) (by simp only [List.length_append, List.length_cons, List.length_nil]; omega)
    rw [div_pow] at h
    refine Ev.step (f := fun k => spec_PutNumber.l0 k (v / 256) n ([v % 256] ++ out) ((i + 1 : Nat) : Int)) (fun k => ?_) ?_
    · simp only [spec_PutNumber.l0, Option.bind_some]
      rw [if_pos (by omega), if_pos (by simp [hl]; omega), Int.tmod_eq_emod_of_nonneg h0, Int.tdiv_eq_ediv_of_nonneg h0, w64 (by omega) (by omega), w64 (by omega) (by omega), show v % 256 % 256 = v % 256 by omega]; rfl
    · rwa [show be (d + 1) v ++ out = be d (v / 256) ++ ([v % 256] ++ out) by simp [be]]
theorem putSpec_ev (v n : Int) (hv : v ≤ 9223372036854775807) : Ev (fun k => spec_PutNumber.f k v n) (putOf v n) := by
  have hj : ∀ k b, spec_PutNumber.j0 (k + 1) v n b = if b = true then (some (([] : List Int))) else (spec_PutNumber.l0 k v n (([] : List Int)) 0) := fun _ _ => rfl
  by_cases c1 : n < 1
  · have : putOf v n = [] := by unfold putOf; rw [if_pos (.inl c1)]
    rw [this]
    exact Ev.step (f := fun _ => some []) (fun k => by unfold spec_PutNumber.f; rw [if_pos c1, hj, if_pos rfl]) (Ev.now _)
  by_cases c2 : n > 8
  · have : putOf v n = [] := by unfold putOf; rw [if_pos (.inr (.inl c2))]
    rw [this]
    exact Ev.step (f := fun _ => some []) (fun k => by unfold spec_PutNumber.f; rw [if_neg c1, if_pos c2, hj, if_pos rfl]) (Ev.now _)
  by_cases c3 : v < 0
  · have : putOf v n = [] := by unfold putOf; rw [if_pos (.inr (.inr (.inl c3)))]
    rw [this]
    exact Ev.step (f := fun _ => some []) (fun k => by unfold spec_PutNumber.f; rw [if_neg c1, if_neg c2, hj, if_pos (decide_eq_true c3)]) (Ev.now _)
  have h := putSpec_loop n (by omega) n.toNat v 0 [] (by omega) hv (by omega) rfl
  have e : putOf v n = if v / 256 ^ n.toNat > 0 then [] else be n.toNat v ++ [] := by
    unfold putOf
    by_cases c : v / 256 ^ n.toNat > 0
    · rw [if_pos (.inr (.inr (.inr c))), if_pos c]
    · rw [if_neg (by omega), if_neg c]; simp
  rw [e]
  exact Ev.step (fun k => by unfold spec_PutNumber.f; rw [if_neg c1, if_neg c2, hj, if_neg (by simpa using c3)]) (show Ev (fun k => spec_PutNumber.l0 k v n [] 0) _ from h)
theorem be_get : ∀ (n : Nat) (v : Int) (i : Nat) (h : i < (be n v).length), (be n v)[i] = v / 256 ^ (n - 1 - i) % 256
  | 0, _, i, h => by simp [be] at h
  | n + 1, v, i, h => by
    have hl := be_len n (v / 256)
    by_cases hi : i < n
    · simp only [be]
      rw [List.getElem_append_left (by omega), be_get n (v / 256) i (by omega), div_pow, show n - 1 - i + 1 = n + 1 - 1 - i by omega]
    · have hi' : i = n := by simp [be, hl] at h; omega
      subst hi'
      simp only [be]
      rw [List.getElem_append_right (by omega)]
      simp [hl]
theorem pow8 (m : Nat) : (2 : Int) ^ (8 * m) = 256 ^ m := by rw [Int.pow_mul]; rfl
theorem shr8 (v : Int) (m : Nat) (hm : m ≤ 8) : shr .i64 v ((8 * m : Nat) : Int) = v / 256 ^ m := by
  unfold shr; rw [Int.toNat_natCast, Nat.min_eq_left (by simp only [IntKind.bits]; omega), pow8]
theorem putImpl_loop (v : Int) (n : Nat) (hn : n ≤ 8) : Ev (fun k => impl_PutNumber.l0 k v (n : Int) (List.replicate n 0) (n : Int) 0) (be n v) := by
  have h := fill_ev (L := fun k x i => impl_PutNumber.l0 k v (n : Int) x (n : Int) i) (List.range n) (fun i => v / 256 ^ (n - 1 - i) % 256)
    (fun i x h hx r hr => by
      simp only [List.length_range] at h hx
      refine Ev.step (fun k => ?_) hr
      simp only [impl_PutNumber.l0]
      have e : wrap64 (8 * (wrap64 ((wrap64 ((n : Int) - 1)) - i))) = ((8 * (n - 1 - i) : Nat) : Int) := by
        rw [w64 (x := (n : Int) - 1) (by omega) (by omega), w64 (x := (n : Int) - 1 - i) (by omega) (by omega), w64 (by omega) (by omega)]; omega
      rw [if_pos (by omega), e, if_pos (by omega), if_pos (by omega), if_pos (by omega), shr8 _ _ (by omega), w64 (by omega) (by omega)]
      simp)
    (fun x hx => by
      simp only [List.length_range] at hx ⊢
      exact Ev.step (f := fun _ => some x) (fun k => by simp only [impl_PutNumber.l0]; rw [if_neg (by omega)]) (Ev.now _))
    (List.replicate n 0) (by simp)
  have e : (List.range n).map (fun i => v / 256 ^ (n - 1 - i) % 256) = be n v := by
    apply List.ext_getElem
    · simp [be_len]
    · intro i h1 h2
      rw [be_get]; simp
  rwa [e] at h
theorem lt256 (v : Int) (h0 : 0 ≤ v) (h1 : v ≤ 9223372036854775807) : v / 256 ^ 8 = 0 := by
  have : (256 : Int) ^ 8 = 18446744073709551616 := by decide
  rw [this]; omega
theorem putImpl_ev (v n : Int) (hv : v ≤ 9223372036854775807) : Ev (fun k => impl_PutNumber.f k v n) (putOf v n) := by
  have hj : ∀ k b, impl_PutNumber.j0 (k + 1) v n b = if b = true then (some ([] : List Int)) else (if 0 ≤ n then (if (n : Int).toNat ≤ 281474976710656 then ((some (List.replicate (n : Int).toNat 0 : List Int)).bind fun y116 => (impl_PutNumber.l0 k v n y116 (y116.length : Int) 0)) else (none)) else (none)) := fun _ _ => rfl
  by_cases c1 : n < 1
  · have : putOf v n = [] := by unfold putOf; rw [if_pos (.inl c1)]
    rw [this]
    exact Ev.step (f := fun _ => some []) (fun k => by unfold impl_PutNumber.f; rw [if_pos c1, hj, if_pos rfl]) (Ev.now _)
  by_cases c2 : n > 8
  · have : putOf v n = [] := by unfold putOf; rw [if_pos (.inr (.inl c2))]
    rw [this]
    exact Ev.step (f := fun _ => some []) (fun k => by unfold impl_PutNumber.f; rw [if_neg c1, if_pos c2, hj, if_pos rfl]) (Ev.now _)
  by_cases c3 : v < 0
  · have : putOf v n = [] := by unfold putOf; rw [if_pos (.inr (.inr (.inl c3)))]
    rw [this]
    exact Ev.step (f := fun _ => some []) (fun k => by unfold impl_PutNumber.f; rw [if_neg c1, if_neg c2, if_pos c3, hj, if_pos rfl]) (Ev.now _)
  obtain ⟨m, rfl⟩ := Int.eq_ofNat_of_zero_le (show 0 ≤ n by omega)
  have hloop : ∀ b, b = false → Ev (fun k => impl_PutNumber.j0 k v (m : Int) b) (be m v) := fun b hb => by
    refine Ev.step (f := fun k => impl_PutNumber.l0 k v (m : Int) (List.replicate m 0) (m : Int) 0) (fun k => ?_) (putImpl_loop v m (by omega))
    rw [hj, if_neg (by simp [hb]), if_pos (by omega), if_pos (by simp; omega)]; simp
  by_cases c4 : (m : Int) < 8
  · have e8 : wrap64 (8 * (m : Int)) = ((8 * m : Nat) : Int) := by rw [w64 (by omega) (by omega)]; omega
    have hd : 0 ≤ v / 256 ^ m := Int.ediv_nonneg (by omega) (Int.le_of_lt (Int.pow_pos (by decide)))
    by_cases c5 : v / 256 ^ m > 0
    · have : putOf v m = [] := by unfold putOf; rw [if_pos (.inr (.inr (.inr (by simpa using c5))))]
      rw [this]
      exact Ev.step (f := fun _ => some []) (fun k => by unfold impl_PutNumber.f; rw [if_neg c1, if_neg c2, if_neg c3, if_pos c4, e8, if_pos (by omega), shr8 _ _ (by omega), hj, if_pos (by simp; omega)]) (Ev.now _)
    · have : putOf v m = be m v := by unfold putOf; rw [if_neg (by simp; omega)]; simp
      rw [this]
      exact Ev.congr (fun k => by unfold impl_PutNumber.f; rw [if_neg c1, if_neg c2, if_neg c3, if_pos c4, e8, if_pos (by omega), shr8 _ _ (by omega)]) (hloop _ (by simp; omega))
  · have hm8 : m = 8 := by omega
    have : putOf v m = be m v := by
      unfold putOf; rw [if_neg (by subst hm8; have := lt256 v (by omega) hv; simp only [Int.toNat_natCast]; omega)]; simp
    rw [this]
    exact Ev.congr (fun k => by unfold impl_PutNumber.f; rw [if_neg c1, if_neg c2, if_neg c3, if_neg c4]) (hloop _ rfl)
end PN
theorem FnExactPutNumber : laws_FnExactPutNumber.Pure := by
  intro v n hv _
  have hv := (wfi hv).2
  have s := PN.putSpec_ev v n hv
  have i := PN.putImpl_ev v n hv
  have hl := PN.putOf_len v n
  generalize PN.putOf v n = r at s i hl
  have e := eqS_ev (F := laws_eqByteS.f) (fun _ _ _ => rfl) (fun _ _ _ _ => rfl) r (by omega)
  have m : Ev (fun k => laws_markByteS.f k r 1) _ := mark_ev (fun x => x % 256) (L := laws_markByteS.l0) (fun _ _ _ _ => rfl) r 1 (by omega) (by omega)
  have h : Ev (fun k => laws_heldByteS.f k _ 1) _ := held_ev (fun x => x % 256) (L := laws_heldByteS.l0) (fun _ _ _ _ => rfl) r.length 1 (by omega) (by omega)
  refine Ev.rounds (Ev.congr (fun k => by unfold laws_FnExactPutNumber.f; rfl) ?_)
  refine s.bind ?_
  refine i.bind ?_
  refine e.bind ?_
  refine Ev.congr (fun k => if_pos rfl) ?_
  refine m.bind ?_
  refine h.bind ?_
  refine Ev.congr (fun k => if_neg (by omega)) ?_
  refine Ev.congr (fun k => if_pos rfl) ?_
  refine i.bind ?_
  refine e.bind ?_
  refine Ev.congr (fun k => if_pos rfl) ?_
  refine h.bind ?_
  refine Ev.congr (fun k => if_neg (by omega)) ?_
  exact Ev.congr (fun k => if_pos rfl) (Ev.now true)
end Go.Proofs.Ytdhjhadcadcceaa.Pure
