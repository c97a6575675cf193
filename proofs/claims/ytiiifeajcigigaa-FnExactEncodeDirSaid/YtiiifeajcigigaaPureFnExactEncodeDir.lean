/- FnExactEncodeDir: at every list of entries the program's EncodeDir returns what the reference's returns, in memory of its own; the entries stay as they were (the plain law; the row stands beside it). -/
import Derived.Test.YtiiifeajcigigaaPFnExactEncodeDirx
import Derived.Test.YtiiifeajcigigaaHlp2
namespace Go.Proofs.Ytiiifeajcigigaa.Pure
open Go.RowKit Go.Proofs.Ytiiifeajcigigaa.PFnExactEncodeDir Go.Proofs.YtiiifeajcigigaaW.PrintWords Go.Proofs.YtiiifeajcigigaaW.PrintLast Go.Proofs.YtiiifeajcigigaaW.PrintMore Go.Proofs.Ytiiifeajcigigaa.Hlp
set_option linter.unusedVariables false
namespace EP
/-- n bytes of v, the greatest first. -/
def be : Nat → Int → List Int
  | 0, _ => []
  | n + 1, v => be n (v / 256) ++ [v % 256]
theorem be_len : ∀ (n : Nat) (v : Int), (be n v).length = n
  | 0, _ => rfl
  | n + 1, v => by simp [be, be_len n]
/-- What both say. -/
def putOf (v n : Int) : List Int := if n < 1 ∨ n > 8 ∨ v < 0 ∨ v / 256 ^ n.toNat > 0 then [] else be n.toNat v
theorem putOf_len (v n : Int) : (putOf v n).length ≤ 8 := by
  unfold putOf; split
  · simp
  · rw [be_len]; omega
theorem div_pow (v : Int) (d : Nat) : v / 256 / 256 ^ d = v / 256 ^ (d + 1) := by
  rw [Int.ediv_ediv_of_nonneg (by omega), Int.pow_succ, Int.mul_comm]
theorem putSpec_loop (n : Int) (hn : n ≤ 8) (d : Nat) : ∀ (v : Int) (i : Nat) (out : List Int), 0 ≤ v → v ≤ 9223372036854775807 → (i : Int) + d = n → out.length = i →
    Ev (fun k => spec_PutNumber.l0 k v n out (i : Int)) (if v / 256 ^ d > 0 then [] else be d v ++ out) := by
  induction d with
  | zero =>
    intro v i out h0 h1 hi hl
    refine Ev.step (f := fun _ => some (if v / 256 ^ 0 > 0 then [] else be 0 v ++ out)) (fun k => ?_) (Ev.now _)
    simp only [spec_PutNumber.l0]
    rw [if_neg (by omega), show v / 256 ^ 0 = v by simp]
    by_cases h : v > 0
    · rw [if_pos h, if_pos h]
    · rw [if_neg h, if_neg h]; rfl
  | succ d ih =>
    intro v i out h0 h1 hi hl
    have h := ih (v / 256) (i + 1) ([v % 256] ++ out) (by omega) (by omega) (by omega) (by simp only [List.length_append, List.length_cons, List.length_nil]; omega)
    rw [div_pow] at h
    refine Ev.step (f := fun k => spec_PutNumber.l0 k (v / 256) n ([v % 256] ++ out) ((i + 1 : Nat) : Int)) (fun k => ?_) ?_
    · simp only [spec_PutNumber.l0, Option.bind_some]
      rw [if_pos (by omega), if_pos (by simp [hl]; omega), Int.tmod_eq_emod_of_nonneg h0, Int.tdiv_eq_ediv_of_nonneg h0, w64 (by omega) (by omega), w64 (by omega) (by omega), show v % 256 % 256 = v % 256 by omega]; rfl
    · rwa [show be (d + 1) v ++ out = be d (v / 256) ++ ([v % 256] ++ out) by simp [be]]
theorem putSpec_ev (v n : Int) (hv : v ≤ 9223372036854775807) : Ev (fun k => spec_PutNumber.f k v n) (putOf v n) := by
  have hj : ∀ k b, spec_PutNumber.j0 (k + 1) v n b = if b = true then (some (([] : List Int))) else (spec_PutNumber.l0 k v n (([] : List Int)) 0) := fun _ _ => rfl
  by_cases c1 : n < 1
  · have : putOf v n = [] := by unfold putOf; rw [if_pos (.inl c1)]
    rw [this]
    exact Ev.step (f := fun _ => some []) (fun k => by unfold spec_PutNumber.f; rw [if_pos c1, hj, if_pos rfl]) (Ev.now _)
  by_cases c2 : n > 8
  · have : putOf v n = [] := by unfold putOf; rw [if_pos (.inr (.inl c2))]
    rw [this]
    exact Ev.step (f := fun _ => some []) (fun k => by unfold spec_PutNumber.f; rw [if_neg c1, if_pos c2, hj, if_pos rfl]) (Ev.now _)
  by_cases c3 : v < 0
  · have : putOf v n = [] := by unfold putOf; rw [if_pos (.inr (.inr (.inl c3)))]
    rw [this]
    exact Ev.step (f := fun _ => some []) (fun k => by unfold spec_PutNumber.f; rw [if_neg c1, if_neg c2, hj, if_pos (decide_eq_true c3)]) (Ev.now _)
  have h := putSpec_loop n (by omega) n.toNat v 0 [] (by omega) hv (by omega) rfl
  have e : putOf v n = if v / 256 ^ n.toNat > 0 then [] else be n.toNat v ++ [] := by
    unfold putOf
    by_cases c : v / 256 ^ n.toNat > 0
    · rw [if_pos (.inr (.inr (.inr c))), if_pos c]
    · rw [if_neg (by omega), if_neg c]; simp
  rw [e]
  exact Ev.step (fun k => by unfold spec_PutNumber.f; rw [if_neg c1, if_neg c2, hj, if_neg (by simpa using c3)]) (show Ev (fun k => spec_PutNumber.l0 k v n [] 0) _ from h)
theorem be_get : ∀ (n : Nat) (v : Int) (i : Nat) (h : i < (be n v).length), (be n v)[i] = v / 256 ^ (n - 1 - i) % 256
  | 0, _, i, h => by simp [be] at h
  | n + 1, v, i, h => by
    have hl := be_len n (v / 256)
    by_cases hi : i < n
    · simp only [be]
      rw [List.getElem_append_left (by omega), be_get n (v / 256) i (by omega), div_pow, show n - 1 - i + 1 = n + 1 - 1 - i by omega]
    · have hi' : i = n := by simp [be, hl] at h; omega
      subst hi'
      simp only [be]
      rw [List.getElem_append_right (by omega)]
      simp [hl]
theorem pow8 (m : Nat) : (2 : Int) ^ (8 * m) = 256 ^ m := by rw [Int.pow_mul]; rfl
theorem shr8 (v : Int) (m : Nat) (hm : m ≤ 8) : shr .i64 v ((8 * m : Nat) : Int) = v / 256 ^ m := by
  unfold shr; rw [Int.toNat_natCast, Nat.min_eq_left (by simp only [IntKind.bits]; omega), pow8]
theorem putImpl_loop (v : Int) (n : Nat) (hn : n ≤ 8) : Ev (fun k => impl_PutNumber.l0 k v (n : Int) (List.replicate n 0) (n : Int) 0) (be n v) := by
  have h := fill_ev (L := fun k x i => impl_PutNumber.l0 k v (n : Int) x (n : Int) i) (List.range n) (fun i => v / 256 ^ (n - 1 - i) % 256)
    (fun i x h hx r hr => by
      simp only [List.length_range] at h hx
      refine Ev.step (fun k => ?_) hr
      simp only [impl_PutNumber.l0]
      have e : wrap64 (8 * (wrap64 ((wrap64 ((n : Int) - 1)) - i))) = ((8 * (n - 1 - i) : Nat) : Int) := by
        rw [w64 (x := (n : Int) - 1) (by omega) (by omega), w64 (x := (n : Int) - 1 - i) (by omega) (by omega), w64 (by omega) (by omega)]; omega
      rw [if_pos (by omega), e, if_pos (by omega), if_pos (by omega), if_pos (by omega), shr8 _ _ (by omega), w64 (by omega) (by omega)]
      simp)
    (fun x hx => by
      simp only [List.length_range] at hx ⊢
      exact Ev.step (f := fun _ => some x) (fun k => by simp only [impl_PutNumber.l0]; rw [if_neg (by omega)]) (Ev.now _))
    (List.replicate n 0) (by simp)
  have e : (List.range n).map (fun i => v / 256 ^ (n - 1 - i) % 256) = be n v := by
    apply List.ext_getElem
    · simp [be_len]
    · intro i h1 h2
      rw [be_get]; simp
  rwa [e] at h
theorem lt256 (v : Int) (h0 : 0 ≤ v) (h1 : v ≤ 9223372036854775807) : v / 256 ^ 8 = 0 := by
  have : (256 : Int) ^ 8 = 18446744073709551616 := by decide
  rw [this]; omega
theorem putImpl_ev (v n : Int) (hv : v ≤ 9223372036854775807) : Ev (fun k => impl_PutNumber.f k v n) (putOf v n) := by
  have hj : ∀ k b, impl_PutNumber.j0 (k + 1) v n b = if b = true then (some ([] : List Int)) else (if 0 ≤ n then (if (n : Int).toNat ≤ 281474976710656 then ((some (List.replicate (n : Int).toNat 0 : List Int)).bind fun y116 => (impl_PutNumber.l0 k v n y116 (y116.length : Int) 0)) else (none)) else (none)) := fun _ _ => rfl
  by_cases c1 : n < 1
  · have : putOf v n = [] := by unfold putOf; rw [if_pos (.inl c1)]
    rw [this]
    exact Ev.step (f := fun _ => some []) (fun k => by unfold impl_PutNumber.f; rw [if_pos c1, hj, if_pos rfl]) (Ev.now _)
  by_cases c2 : n > 8
  · have : putOf v n = [] := by unfold putOf; rw [if_pos (.inr (.inl c2))]
    rw [this]
    exact Ev.step (f := fun _ => some []) (fun k => by unfold impl_PutNumber.f; rw [if_neg c1, if_pos c2, hj, if_pos rfl]) (Ev.now _)
  by_cases c3 : v < 0
  · have : putOf v n = [] := by unfold putOf; rw [if_pos (.inr (.inr (.inl c3)))]
    rw [this]
    exact Ev.step (f := fun _ => some []) (fun k => by unfold impl_PutNumber.f; rw [if_neg c1, if_neg c2, if_pos c3, hj, if_pos rfl]) (Ev.now _)
  obtain ⟨m, rfl⟩ := Int.eq_ofNat_of_zero_le (show 0 ≤ n by omega)
  have hloop : ∀ b, b = false → Ev (fun k => impl_PutNumber.j0 k v (m : Int) b) (be m v) := fun b hb => by
    refine Ev.step (f := fun k => impl_PutNumber.l0 k v (m : Int) (List.replicate m 0) (m : Int) 0) (fun k => ?_) (putImpl_loop v m (by omega))
    rw [hj, if_neg (by simp [hb]), if_pos (by omega), if_pos (by simp; omega)]; simp
  by_cases c4 : (m : Int) < 8
  · have e8 : wrap64 (8 * (m : Int)) = ((8 * m : Nat) : Int) := by rw [w64 (by omega) (by omega)]; omega
    have hd : 0 ≤ v / 256 ^ m := Int.ediv_nonneg (by omega) (Int.le_of_lt (Int.pow_pos (by decide)))
    by_cases c5 : v / 256 ^ m > 0
    · have : putOf v m = [] := by unfold putOf; rw [if_pos (.inr (.inr (.inr (by simpa using c5))))]
      rw [this]
      exact Ev.step (f := fun _ => some []) (fun k => by unfold impl_PutNumber.f; rw [if_neg c1, if_neg c2, if_neg c3, if_pos c4, e8, if_pos (by omega), shr8 _ _ (by omega), hj, if_pos (by simp; omega)]) (Ev.now _)
    · have : putOf v m = be m v := by unfold putOf; rw [if_neg (by simp; omega)]; simp
      rw [this]
      exact Ev.congr (fun k => by unfold impl_PutNumber.f; rw [if_neg c1, if_neg c2, if_neg c3, if_pos c4, e8, if_pos (by omega), shr8 _ _ (by omega)]) (hloop _ (by simp; omega))
  · have hm8 : m = 8 := by omega
    have : putOf v m = be m v := by
      unfold putOf; rw [if_neg (by subst hm8; have := lt256 v (by omega) hv; simp only [Int.toNat_natCast]; omega)]; simp
    rw [this]
    exact Ev.congr (fun k => by unfold impl_PutNumber.f; rw [if_neg c1, if_neg c2, if_neg c3, if_neg c4]) (hloop _ rfl)
theorem put_ev (b : List Int) (p : Nat) (v n : Int) (hv : v ≤ 9223372036854775807) (hp : p ≤ b.length) : Ev (fun k => impl_put.f k b (p : Int) v n) (splice b p ((putOf v n).take (b.length - p))) := by
  unfold impl_put.f
  refine (putImpl_ev v n hv).bind ?_
  exact Ev.congr (fun k => by rw [if_pos (by omega), if_pos (by omega), Int.toNat_natCast]) (Ev.now _)
theorem put_two (v : Int) (h0 : 0 ≤ v) (h1 : v < 65536) : putOf v 2 = be 2 v := by
  unfold putOf; rw [if_neg (by simp; omega)]; rfl
theorem splice_at (a z x : List Int) (h : x.length ≤ z.length) : splice (a ++ z) a.length (x.take ((a ++ z).length - a.length)) = (a ++ x) ++ z.drop x.length := by
  have e : x.take ((a ++ z).length - a.length) = x := List.take_of_length_le (by rw [List.length_append]; omega)
  rw [e]; unfold splice
  rw [List.take_left, List.drop_append]
  simp
/-- A number of two bytes, put behind what stands, ahead of zeros. -/
theorem put2_ev (a : List Int) (m : Nat) (p : Int) (v : Int) (h0 : 0 ≤ v) (h1 : v < 65536) (hp : p = (a.length : Int)) : Ev (fun k => impl_put.f k (a ++ List.replicate (m + 2) 0) p v 2) ((a ++ be 2 v) ++ List.replicate m 0) := by
  have h := put_ev (a ++ List.replicate (m + 2) 0) a.length v 2 (by omega) (by simp)
  rw [put_two v h0 h1, splice_at a _ _ (by rw [be_len]; simp), be_len] at h
  have e : (List.replicate (m + 2) (0 : Int)).drop 2 = List.replicate m 0 := by simp
  rw [e] at h
  rw [hp]; exact h
theorem bytes_some (s : ByteArray) (hs : s.size ≤ 1048576) (d : Nat) : ∀ i : Nat, i + d = s.size → ∃ r, Ev (fun k => spec_l10Bytes.l0 k s (i : Int)) r := by
  induction d with
  | zero =>
    intro i hi
    exact ⟨true, Ev.step (f := fun _ => some true) (fun k => by simp only [spec_l10Bytes.l0]; rw [if_neg (by omega)]) (Ev.now _)⟩
  | succ d ih =>
    intro i hi
    by_cases h1 : bt s (i : Int) < 33
    · exact ⟨false, Ev.step (f := fun _ => some false) (fun k => by simp only [spec_l10Bytes.l0]; rw [if_pos (by omega), if_pos (by omega), if_pos h1]) (Ev.now _)⟩
    · by_cases h2 : bt s (i : Int) > 126
      · exact ⟨false, Ev.step (f := fun _ => some false) (fun k => by simp only [spec_l10Bytes.l0]; rw [if_pos (by omega), if_pos (by omega), if_neg h1, if_pos h2]) (Ev.now _)⟩
      · obtain ⟨r, h⟩ := ih (i + 1) (by omega)
        exact ⟨r, Ev.step (fun k => by simp only [spec_l10Bytes.l0]; rw [if_pos (by omega), if_pos (by omega), if_neg h1, if_neg h2, show wrap64 ((i : Int) + 1) = ((i + 1 : Nat) : Int) by unfold wrap64; omega]) h⟩
theorem cut_some (s : ByteArray) (c : Int) (hs : s.size ≤ 1048576) (d : Nat) : ∀ (i q : Nat) (a : List ByteArray), i + d = s.size → q ≤ i → a.length ≤ i → ∃ r, Ev (fun k => spec_l10Cut.l0 k s c a (q : Int) (i : Int)) r := by
  induction d with
  | zero =>
    intro i q a hi hq ha
    exact ⟨_, Ev.step (f := fun _ => some (a ++ [s.extract q s.size])) (fun k => by simp only [spec_l10Cut.l0]; rw [if_neg (by omega), if_pos (by omega), if_pos (by omega), if_pos (by omega)]; simp) (Ev.now _)⟩
  | succ d ih =>
    intro i q a hi hq ha
    have hw : wrap64 ((i : Int) + 1) = ((i + 1 : Nat) : Int) := by unfold wrap64; omega
    by_cases h1 : bt s (i : Int) = c
    · obtain ⟨r, h⟩ := ih (i + 1) (i + 1) (a ++ [s.extract q i]) (by omega) (Nat.le_refl _) (by simp; omega)
      exact ⟨r, Ev.step (fun k => by simp only [spec_l10Cut.l0]; rw [if_pos (by omega), if_pos (by omega), if_pos h1, if_pos (by omega), if_pos (by omega), if_pos (by omega), if_pos (by omega), hw]; rfl) h⟩
    · obtain ⟨r, h⟩ := ih (i + 1) q a (by omega) (by omega) (by omega)
      exact ⟨r, Ev.step (fun k => by simp only [spec_l10Cut.l0]; rw [if_pos (by omega), if_pos (by omega), if_neg h1, hw]) h⟩
theorem spec_some (s : ByteArray) (hs : s.size ≤ 1048576) : ∃ r, Ev (fun k => spec_ValidName.f k s) r := by
  obtain ⟨b, hb⟩ := bytes_some s hs s.size 0 (by omega)
  obtain ⟨c, hc⟩ := cut_some s 47 hs s.size 0 0 [] (by omega) (Nat.le_refl _) (by simp)
  have hb' : Ev (fun k => spec_l10Bytes.f k s) b := hb
  have hc' : Ev (fun k => spec_l10Cut.f k s 47) c := hc
  have key : ∃ r, Ev (fun k => (if b = true then (if (s.size : Int) < 1 then (some false) else (if (s.size : Int) > 13 then (some false) else (if s.toList = ([46] : List UInt8) then (some false) else (if s.toList = ([46, 46] : List UInt8) then (some false) else ((spec_l10Cut.f k s 47).bind fun t111 => (some ((t111.length : Int) == 1))))))) else (some false))) r := by
    by_cases h1 : b = true
    · by_cases h2 : (s.size : Int) < 1
      · exact ⟨false, Ev.congr (fun k => by rw [if_pos h1, if_pos h2]) (Ev.now _)⟩
      · by_cases h3 : (s.size : Int) > 13
        · exact ⟨false, Ev.congr (fun k => by rw [if_pos h1, if_neg h2, if_pos h3]) (Ev.now _)⟩
        · by_cases h4 : s.toList = ([46] : List UInt8)
          · exact ⟨false, Ev.congr (fun k => by rw [if_pos h1, if_neg h2, if_neg h3, if_pos h4]) (Ev.now _)⟩
          · by_cases h5 : s.toList = ([46, 46] : List UInt8)
            · exact ⟨false, Ev.congr (fun k => by rw [if_pos h1, if_neg h2, if_neg h3, if_neg h4, if_pos h5]) (Ev.now _)⟩
            · exact ⟨_, Ev.congr (fun k => by rw [if_pos h1, if_neg h2, if_neg h3, if_neg h4, if_neg h5]) (hc'.bind (Ev.now _))⟩
    · exact ⟨false, Ev.congr (fun k => by rw [if_neg h1]) (Ev.now _)⟩
  obtain ⟨r, hr⟩ := key
  exact ⟨r, hb'.bind hr⟩
theorem ejoin_some (a b : List Int) (h : a.length + b.length < 140737488355328) : spec_l2Join.f a b = some (a ++ b) := by
  unfold spec_l2Join.f spec_l1Copy.f
  rw [Option.bind_some, if_pos (by simp; omega), Option.bind_some, if_pos (by simpa using h)]; rfl
theorem ein_tell (a lo hi : Int) : impl_in.f a lo hi = some (decide (lo ≤ a ∧ a ≤ hi)) := by
  unfold impl_in.f
  by_cases c : a ≥ lo
  · rw [if_pos c]; congr 1; simp; omega
  · rw [if_neg c]; simp; omega
theorem eput2 (v : Int) (h0 : 0 ≤ v) (h1 : v < 65536) : Ev (fun k => spec_PutNumber.f k v 2) (be 2 v) := by
  have := putSpec_ev v 2 (by omega)
  rwa [put_two v h0 h1] at this
/-- The sixteen bytes of a good entry. -/
def entOf (n : Int) (s : ByteArray) : List Int := ((be 2 n ++ [(s.size : Int) % 256]) ++ bytesOf s) ++ List.replicate (13 - s.size) 0
theorem entOf_len (n : Int) (s : ByteArray) (h : s.size ≤ 13) : (entOf n s).length = 16 := by
  simp only [entOf, List.length_append, be_len, List.length_cons, List.length_nil, bytesOf_length, List.length_replicate]; omega
/-- What both say of an entry: the bytes, if the entry is good. -/
theorem entry (n : Int) (s : ByteArray) (hs : s.size ≤ 1048576) : ∃ b : Bool, Ev (fun k => spec_ValidName.f k s) b ∧ (b = true → s.size ≤ 13) ∧
    Ev (fun k => spec_EncodeEntry.f k n s) (if b = true ∧ 1 ≤ n ∧ n ≤ 256 then entOf n s else []) ∧ Ev (fun k => impl_EncodeEntry.f k n s) (if b = true ∧ 1 ≤ n ∧ n ≤ 256 then entOf n s else []) := by
  obtain ⟨b, hb⟩ := spec_some s hs
  have hi : Ev (fun k => impl_ValidName.f k s) b := hb
  have hsz : b = true → s.size ≤ 13 := fun e => by
    obtain ⟨k, hk⟩ := Ev.rounds hb
    exact ((vn_of hk).1 e).2.1
  have hg : Ev (fun k => spec_l10GoodEntry.f k n s) (decide (b = true ∧ 1 ≤ n ∧ n ≤ 256)) := by
    unfold spec_l10GoodEntry.f
    refine hb.bind ?_
    by_cases c : b = true
    · by_cases c2 : n ≥ 1
      · exact Ev.congr (fun k => by rw [if_pos c, if_pos c2, show decide (n ≤ 256) = decide (b = true ∧ 1 ≤ n ∧ n ≤ 256) from decide_eq_decide.2 ⟨fun h => ⟨c, c2, h⟩, fun h => h.2.2⟩]) (Ev.now _)
      · exact Ev.congr (fun k => by rw [if_pos c, if_neg c2, decide_eq_false (fun h => c2 h.2.1)]) (Ev.now _)
    · exact Ev.congr (fun k => by rw [if_neg c, decide_eq_false (fun h => c h.1)]) (Ev.now _)
  refine ⟨b, hb, hsz, ?_, ?_⟩
  · unfold spec_EncodeEntry.f
    refine hg.bind ?_
    by_cases g : b = true ∧ 1 ≤ n ∧ n ≤ 256
    · rw [if_pos g]
      have h13 := hsz g.1
      have e1 : wrap64 (16 - (((be 2 n ++ [(s.size : Int) % 256]) ++ bytesOf s).length : Int)) = ((13 - s.size : Nat) : Int) := by
        have e2 : ((be 2 n ++ [(s.size : Int) % 256]) ++ bytesOf s).length = 3 + s.size := by simp only [List.length_append, be_len, List.length_cons, List.length_nil, bytesOf_length]
        rw [e2, w64 (by omega) (by omega)]; omega
      refine Ev.congr (fun k => if_pos (decide_eq_true g)) ?_
      refine (eput2 n (by omega) (by omega)).bind ?_
      refine Ev.congr (fun k => ?_) (Ev.now _)
      rw [Option.bind_some, if_pos (by rw [be_len]; simp), Option.bind_some, if_pos (by simp only [List.length_append, be_len, List.length_cons, List.length_nil]; omega), Option.bind_some, e1]
      unfold spec_l2Zero.f
      rw [if_pos (by omega), if_pos (by omega), Option.bind_some, Int.toNat_natCast, ejoin_some _ _ (by simp only [List.length_append, be_len, List.length_cons, List.length_nil, bytesOf_length, List.length_replicate]; omega), Option.bind_some]
      rfl
    · rw [if_neg g]
      exact Ev.congr (fun k => if_neg (by simpa using g)) (Ev.now _)
  · unfold impl_EncodeEntry.f
    refine Ev.congr (fun k => by rw [ein_tell, Option.bind_some]) ?_
    by_cases c : 1 ≤ n ∧ n ≤ 256
    · refine Ev.congr (fun k => if_pos (decide_eq_true c)) ?_
      refine hi.bind ?_
      by_cases d : b = true
      · rw [if_pos ⟨d, c⟩]
        have h13 := hsz d
        refine Ev.congr (fun k => if_pos d) ?_
        have hp : Ev (fun k => impl_put.f k (List.replicate 16 0) 0 n 2) (be 2 n ++ List.replicate 14 0) := put2_ev [] 14 0 n (by omega) (by omega) rfl
        refine hp.bind ?_
        have e3 : (be 2 n ++ List.replicate 14 0).set 2 ((s.size : Int) % 256) = (be 2 n ++ [(s.size : Int) % 256]) ++ List.replicate 13 0 := rfl
        have e4 := splice_at (be 2 n ++ [(s.size : Int) % 256]) (List.replicate 13 0) (bytesOf s) (by rw [bytesOf_length, List.length_replicate]; exact h13)
        rw [show ((be 2 n ++ [(s.size : Int) % 256]) ++ List.replicate 13 (0 : Int)).length - (be 2 n ++ [(s.size : Int) % 256]).length = 13 from rfl, List.take_of_length_le (by rw [bytesOf_length]; exact h13), bytesOf_length, List.drop_replicate] at e4
        refine Ev.congr (fun k => ?_) (Ev.now _)
        rw [e3]
        exact congrArg some e4
      · rw [if_neg (fun h => d h.1)]
        exact Ev.congr (fun k => if_neg d) (Ev.now _)
    · rw [if_neg (fun h => c h.2)]
      exact Ev.congr (fun k => if_neg (by simpa using c)) (Ev.now _)
end EP
namespace DR
theorem rd105 (l : List S23) (i : Nat) (h : i < l.length) : rd_T23 l (i : Int) = l[i] := by simp [rd_T23, h]
theorem rd106 (l : List S27) (i : Nat) (h : i < l.length) : rd_T27 l (i : Int) = l[i] := by simp [rd_T27, h]
def toE (e : S23) : S27 := ⟨e.f0, e.f1⟩
theorem szE (l : List S23) (hl : l.length ≤ maxLen) (hg : ∀ y ∈ l, (Lit.int .i64 y.f0).wf = true ∧ y.f1.size ≤ maxLen) :
    ∃ r, Ev (fun k => laws_szEntryS.f k l 1048576) r ∧ (r < 0 ∨ (l.length ≤ 1048576 ∧ (l.map (fun e => e.f1.size)).sum ≤ 1048576)) := by
  have hm : maxLen ≤ 9223372036854775807 := by decide
  by_cases c : (wrap64 (1048576 - (l.length : Int))) < 0
  · exact ⟨-1, Ev.congr (fun k => by unfold laws_szEntryS.f; rw [if_pos c]) (Ev.now _), Or.inl (by decide)⟩
  · rw [w64 (by omega) (by omega)] at c
    have hl6 : l.length ≤ 1048576 := by omega
    obtain ⟨r, h, hr⟩ := szG_ev (fun e : S23 => e.f1.size) (L := laws_szEntryS.l0) l (by
      intro i s hi h0 hs
      have hy := (hg l[i] (List.getElem_mem _)).2
      have hw : wrap64 ((i : Int) + 1) = ((i + 1 : Nat) : Int) := by rw [w64 (by omega) (by omega)]; rfl
      by_cases d : (l[i].f1.size : Int) ≤ s
      · refine Or.inr ⟨d, fun r h => Ev.step (fun k => ?_) h⟩
        simp only [laws_szEntryS.l0, laws_szEntry.f]
        rw [if_pos (by omega), if_pos (by omega), rd105 l i hi, w64 (x := s - _) (by omega) (by omega), if_neg (by omega), Option.bind_some, if_neg (by omega), hw]
      · refine Or.inl ⟨-1, by decide, Ev.step (f := fun _ => some (-1)) (fun k => ?_) (Ev.now _)⟩
        simp only [laws_szEntryS.l0, laws_szEntry.f]
        rw [if_pos (by omega), if_pos (by omega), rd105 l i hi, w64 (x := s - _) (by omega) (by omega), if_pos (by omega), Option.bind_some, if_pos (by omega)])
      (fun s => Ev.step (f := fun _ => some s) (fun k => by simp only [laws_szEntryS.l0]; rw [if_neg (by omega)]) (Ev.now _)) (1048576 - (l.length : Int)) (by omega) (by omega)
    refine ⟨r, Ev.congr (fun k => by unfold laws_szEntryS.f; rw [w64 (by omega) (by omega), if_neg (by omega)]) h, ?_⟩
    rcases hr with h | ⟨h1, h2⟩
    · exact Or.inl h
    · exact Or.inr (by omega)
theorem toES (l : List S23) (hl : l.length ≤ 1048576) : Ev (fun k => laws_toEntryS.f k l) (l.map toE) := by
  refine Ev.congr (f := fun k => laws_toEntryS.l0 k l (List.replicate l.length z27) 0) (fun k => by unfold laws_toEntryS.f; rw [if_pos (by omega), if_pos (by simp; omega)]; simp) ?_
  refine fill_ev (L := fun k x i => laws_toEntryS.l0 k l x i) l toE ?_ ?_ _ (by simp)
  · intro i x hi hx r h
    refine Ev.step (fun k => ?_) h
    simp only [laws_toEntryS.l0, laws_toEntry.f]
    rw [if_pos (by omega), if_pos (by omega), Option.bind_some, if_pos (by omega), w64 (by omega) (by omega), rd105 l i hi]
    rfl
  · intro x hx
    exact Ev.step (f := fun _ => some x) (fun k => by simp only [laws_toEntryS.l0]; rw [if_neg (by omega)]) (Ev.now _)
theorem eqES (l : List S27) (hl : l.length ≤ 281474976710656) : Ev (fun k => laws_eqEntryS.f k l l) true := by
  refine Ev.congr (f := fun k => laws_eqEntryS.l0 k l l 0) (fun k => by unfold laws_eqEntryS.f; rw [if_pos rfl]) ?_
  refine eqG_ev (L := laws_eqEntryS.l0) l ?_ ?_
  · intro i hi h
    refine Ev.step (fun k => ?_) h
    simp only [laws_eqEntryS.l0, laws_eqEntry.f]
    rw [if_pos (by omega), if_pos (by omega), if_pos (by omega), w64 (by omega) (by omega)]
    simp
  · exact Ev.step (f := fun _ => some true) (fun k => by simp only [laws_eqEntryS.l0]; rw [if_neg (by omega)]) (Ev.now _)
theorem text_loop (n : Nat) : ∀ (x : Int) (s : ByteArray), 0 ≤ x → x ≤ n → x + s.size ≤ 4611686018427387904 → ∃ r, Ev (fun k => laws_markText.l0 k x s) r := by
  induction n with
  | zero =>
    intro x s h0 h1 h2
    exact ⟨_, Ev.step (f := fun _ => some ((⟨#[109]⟩ : ByteArray) ++ s)) (fun k => by simp only [laws_markText.l0]; rw [if_neg (by omega), if_pos (by omega)]) (Ev.now _)⟩
  | succ n ih =>
    intro x s h0 h1 h2
    by_cases c : x > 0
    · have ht : Int.tdiv x 10 = x / 10 := Int.tdiv_eq_ediv_of_nonneg h0
      have hs : ∀ l : List Int, l.length = 1 → ((strOfNums l) ++ s).size = 1 + s.size := fun l hl => by rw [ByteArray.size_append, strOfNums_size, hl]
      obtain ⟨r, h⟩ := ih (x / 10) ((strOfNums [(wrap64 (48 + (Int.tmod x 10))) % 256]) ++ s) (by omega) (by omega) (by rw [hs _ rfl]; omega)
      exact ⟨r, Ev.step (fun k => by simp only [laws_markText.l0, Option.bind_some]; rw [if_pos c, if_pos (by rw [strOfNums_size]; simp only [List.length_cons, List.length_nil]; omega), ht, w64 (x := x / 10) (by omega) (by omega)]) h⟩
    · exact ⟨_, Ev.step (f := fun _ => some ((⟨#[109]⟩ : ByteArray) ++ s)) (fun k => by simp only [laws_markText.l0]; rw [if_neg c, if_pos (by omega)]) (Ev.now _)⟩
theorem text_some (n : Int) (h : n ≤ 4611686018427387904) : ∃ r, Ev (fun k => laws_markText.f k n) r := by
  by_cases c : n ≤ 0
  · exact ⟨_, Ev.congr (fun k => by unfold laws_markText.f; rw [if_pos c]) (Ev.now (⟨#[109, 48]⟩ : ByteArray))⟩
  · obtain ⟨r, h⟩ := text_loop n.toNat n ⟨#[]⟩ (by omega) (by omega) (by simp [ByteArray.size]; omega)
    exact ⟨r, Ev.congr (fun k => by unfold laws_markText.f; rw [if_neg c]) h⟩
open Classical in
noncomputable def textOf (n : Int) : ByteArray := if h : ∃ t, Ev (fun k => laws_markText.f k n) t then Classical.choose h else ⟨#[]⟩
theorem text_ev (n : Int) (h : n ≤ 4611686018427387904) : Ev (fun k => laws_markText.f k n) (textOf n) := by
  have := text_some n h
  unfold textOf; rw [dif_pos this]; exact Classical.choose_spec this
noncomputable def mkE (_ : S27) (s : Int) : S27 := ⟨s, textOf (s + 1)⟩
theorem markES (l : List S27) (s : Int) (h0 : 0 ≤ s) (hl : l.length ≤ 1048576) (hb : s + (2 * l.length : Nat) ≤ 4194304) : Ev (fun k => laws_markEntryS.f k l s) (s + (2 * l.length : Nat), marksG mkE 2 s l) := by
  refine markG_ev mkE 2 (L := laws_markEntryS.l0) 4194304 ?_ ?_ l s h0 (by omega) hb
  · intro i x s hi hx h0 hs r h
    have hw : wrap64 ((i : Int) + 1) = ((i + 1 : Nat) : Int) := by rw [w64 (by omega) (by omega)]; rfl
    have hs2 : wrap64 (s + 1) = s + 1 := w64 (by omega) (by omega)
    have hs3 : wrap64 (s + 1 + 1) = s + ((2 : Nat) : Int) := by rw [w64 (by omega) (by omega)]; omega
    refine Ev.step (f := fun k => (laws_markText.f k (s + 1)).bind fun t => laws_markEntryS.l0 k (x.set i (⟨s, t⟩ : S27)) (s + ((2 : Nat) : Int)) ((i + 1 : Nat) : Int)) (fun k => ?_) ?_
    · simp only [laws_markEntryS.l0, Option.bind_some]
      rw [if_pos (by omega), if_pos (by omega), hw, hs2, hs3]
      congr 1
      funext t
      rw [Int.toNat_natCast, List.set_set, rd106 _ i (by simpa using hi), List.getElem_set]
      simp
    · exact (text_ev (s + 1) (by omega)).bind h
  · intro x s
    exact Ev.step (f := fun _ => some (s, x)) (fun k => by simp only [laws_markEntryS.l0]; rw [if_neg (by omega)]) (Ev.now _)
end DR
namespace ED
open DR
theorem mem_sum (l : List Nat) (x : Nat) (h : x ∈ l) : x ≤ l.sum := by
  induction l with
  | nil => cases h
  | cons y l ih =>
    rcases List.mem_cons.1 h with rfl | h
    · simp
    · have := ih h; simp; omega
def up (l : List S27) (a : ByteArray) : Nat → Nat → Int
  | 0, _ => -1
  | d + 1, i => if (rd_T27 l (i : Int)).f1.toList = a.toList then (i : Int) else up l a d (i + 1)
theorem specUp (l : List S27) (a : ByteArray) (hl : l.length ≤ 1048576) (r : Int) : ∀ (i d : Nat), i + d = l.length → up l a l.length 0 = r → Ev (fun k => spec_DirFind.l0 k l a (up l a d i) ((i : Int) - 1)) r := by
  intro i
  induction i with
  | zero =>
    intro d hd hr
    rw [show d = l.length by omega, hr]
    exact Ev.step (f := fun _ => some r) (fun k => by simp only [spec_DirFind.l0]; rw [if_neg (by omega)]) (Ev.now _)
  | succ i ih =>
    intro d hd hr
    have h := ih (d + 1) (by omega) hr
    refine Ev.step (fun k => ?_) h
    have hw : wrap64 (((i + 1 : Nat) : Int) - 1 - 1) = (i : Int) - 1 := by rw [w64 (by omega) (by omega)]; omega
    have he : ((i + 1 : Nat) : Int) - 1 = (i : Int) := by omega
    simp only [spec_DirFind.l0, up]
    rw [if_pos (by omega), if_pos (by omega), if_pos (by omega), hw, he]
    split
    · rfl
    · rfl
theorem up_le (l : List S27) (a : ByteArray) : ∀ (d i j : Nat), i + d = l.length → i ≤ j → (h : j < l.length) → l[j].f1.toList = a.toList → 0 ≤ up l a d i ∧ up l a d i ≤ j := by
  intro d
  induction d with
  | zero => intro i j hd hj h; omega
  | succ d ih =>
    intro i j hd hj h he
    simp only [up]
    rw [rd106 l i (by omega)]
    by_cases c : l[i].f1.toList = a.toList
    · rw [if_pos c]; omega
    · rw [if_neg c]
      have hne : i ≠ j := fun e => c (by subst e; exact he)
      exact ih (i + 1) j (by omega) (by omega) h he
theorem up_first (l : List S27) (a : ByteArray) : ∀ (d i m : Nat), i + d = l.length → i ≤ m → (h : m < l.length) → l[m].f1.toList = a.toList → (∀ j (hj : j < l.length), i ≤ j → j < m → l[j].f1.toList ≠ a.toList) → up l a d i = m := by
  intro d
  induction d with
  | zero => intro i m hd hm h; omega
  | succ d ih =>
    intro i m hd hm h he hn
    simp only [up]
    rw [rd106 l i (by omega)]
    by_cases c : l[i].f1.toList = a.toList
    · rw [if_pos c]
      have : i = m := by
        rcases Nat.lt_or_ge i m with h2 | h2
        · exact absurd c (hn i (by omega) (Nat.le_refl _) h2)
        · omega
      rw [this]
    · rw [if_neg c]
      have hne : i ≠ m := fun e => c (by subst e; exact he)
      exact ih (i + 1) m (by omega) (by omega) h he (fun j hj h1 h2 => hn j hj (by omega) h2)
theorem find_ev (l : List S27) (a : ByteArray) (hl : l.length ≤ 1048576) : Ev (fun k => spec_DirFind.f k l a) (up l a l.length 0) := by
  have := specUp l a hl _ l.length 0 (by omega) rfl
  refine Ev.congr (fun k => ?_) this
  unfold spec_DirFind.f
  rw [w64 (by omega) (by omega)]; rfl
/-- Both say the same bytes of an entry, or none. -/
theorem both (n : Int) (s : ByteArray) (hs : s.size ≤ 1048576) : ∃ r, Ev (fun k => spec_EncodeEntry.f k n s) r ∧ Ev (fun k => impl_EncodeEntry.f k n s) r ∧ r.length ≤ 16 ∧ (r ≠ [] → s.size ≤ 13) := by
  obtain ⟨b, _, h13, h1, h2⟩ := EP.entry n s hs
  refine ⟨_, h1, h2, ?_⟩
  by_cases g : b = true ∧ 1 ≤ n ∧ n ≤ 256
  · rw [if_pos g]; exact ⟨by rw [EP.entOf_len n s (h13 g.1)]; decide, fun _ => h13 g.1⟩
  · rw [if_neg g]; exact ⟨by decide, fun h => absurd rfl h⟩
theorem dirLoop (l : List S27) (hl : l.length ≤ 160) (hs : ∀ y ∈ l, y.f1.size ≤ 1048576) : ∀ (d i : Nat), i + d = l.length → ∀ (seen : List (List UInt8)) (b : List Int), b.length ≤ 16 * i → (∀ s, s ∈ seen ↔ ∃ j, ∃ h : j < l.length, j < i ∧ l[j].f1.data.toList = s) →
    ∃ r, Ev (fun k => spec_EncodeDir.l0 k l b (i : Int)) r ∧ Ev (fun k => impl_EncodeDir.l0 k (l.drop i) seen b) r ∧ r.length ≤ 2560 := by
  intro d
  induction d with
  | zero =>
    intro i hi seen b hb hv
    refine ⟨b, Ev.step (f := fun _ => some b) (fun k => by simp only [spec_EncodeDir.l0]; rw [if_neg (by omega)]) (Ev.now _), ?_, by omega⟩
    rw [List.drop_eq_nil_of_le (by omega)]
    exact Ev.congr (f := fun _ => some b) (fun k => rfl) (Ev.now _)
  | succ d ih =>
    intro i hi seen b hb hv
    have hil : i < l.length := by omega
    have hw : wrap64 ((i : Int) + 1) = ((i + 1 : Nat) : Int) := by rw [w64 (by omega) (by omega)]; rfl
    obtain ⟨t, e1, e2, h16, h13⟩ := both l[i].f0 l[i].f1 (hs _ (List.getElem_mem _))
    rw [List.drop_eq_getElem_cons hil]
    by_cases c : t = []
    · subst c
      refine ⟨[], ?_, ?_, by simp⟩
      · refine Ev.step (fun k => by simp only [spec_EncodeDir.l0]; rw [if_pos (by omega), if_pos (by omega), rd106 l i hil]) ?_
        exact e1.bind (Ev.congr (fun k => if_pos rfl) (Ev.now _))
      · exact e2.bind (Ev.congr (fun k => if_pos rfl) (Ev.now _))
    · have ht0 : ¬ (t.length : Int) = 0 := fun h => c (List.eq_nil_of_length_eq_zero (by omega))
      have hf := find_ev l l[i].f1 (by omega)
      have hz : l[i].f1.size ≤ 13 := h13 c
      by_cases g : l[i].f1.data.toList ∈ seen
      · obtain ⟨j, hj, hji, he⟩ := (hv _).1 g
        have hu := up_le l l[i].f1 l.length 0 j (by omega) (by omega) hj (by rw [ByteArray.toList_eq, ByteArray.toList_eq]; exact he)
        refine ⟨[], ?_, ?_, by simp⟩
        · refine Ev.step (fun k => by simp only [spec_EncodeDir.l0]; rw [if_pos (by omega), if_pos (by omega), rd106 l i hil]) ?_
          refine e1.bind ?_
          refine Ev.congr (fun k => if_neg ht0) ?_
          exact hf.bind (Ev.congr (fun k => if_neg (by omega)) (Ev.now _))
        · refine e2.bind ?_
          exact Ev.congr (fun k => by rw [if_neg c, if_pos hz, if_pos g]) (Ev.now _)
      · have hu : up l l[i].f1 l.length 0 = (i : Int) := up_first l l[i].f1 l.length 0 i (by omega) (by omega) hil rfl (fun j hj _ hji he => g ((hv _).2 ⟨j, hj, hji, by rw [ByteArray.toList_eq, ByteArray.toList_eq] at he; exact he⟩))
        rw [hu] at hf
        obtain ⟨r, r1, r2, r3⟩ := ih (i + 1) (by omega) (l[i].f1.data.toList :: seen) (b ++ t) (by rw [List.length_append]; omega) (fun s => by
          rw [List.mem_cons, hv]
          constructor
          · rintro (h | ⟨j, hj, hji, he⟩)
            · exact ⟨i, hil, by omega, h.symm⟩
            · exact ⟨j, hj, by omega, he⟩
          · rintro ⟨j, hj, hji, he⟩
            rcases Nat.lt_or_ge j i with h2 | h2
            · exact Or.inr ⟨j, hj, h2, he⟩
            · obtain rfl : j = i := by omega
              exact Or.inl he.symm)
        refine ⟨r, ?_, ?_, r3⟩
        · refine Ev.step (fun k => by simp only [spec_EncodeDir.l0]; rw [if_pos (by omega), if_pos (by omega), rd106 l i hil, hw]) ?_
          refine e1.bind ?_
          refine Ev.congr (fun k => if_neg ht0) ?_
          exact hf.bind (Ev.congr (fun k => by rw [if_pos rfl, if_pos (by omega)]) r1)
        · refine e2.bind ?_
          exact Ev.congr (fun k => by rw [if_neg c, if_pos hz, if_neg g, if_pos (by omega)]) r2
theorem dir (l : List S27) (hs : ∀ y ∈ l, y.f1.size ≤ 1048576) : ∃ r, Ev (fun k => spec_EncodeDir.f k l) r ∧ Ev (fun k => impl_EncodeDir.f k l) r ∧ r.length ≤ 2560 := by
  unfold spec_EncodeDir.f impl_EncodeDir.f
  by_cases c : (l.length : Int) > 160
  · exact ⟨[], Ev.congr (fun k => by rw [Option.bind_some, if_pos c]) (Ev.now _), Ev.congr (fun k => if_pos c) (Ev.now _), by simp⟩
  · obtain ⟨r, h1, h2, h3⟩ := dirLoop l (by omega) hs l.length 0 (by omega) [] [] (by simp) (fun s => by simp)
    exact ⟨r, Ev.congr (fun k => by rw [Option.bind_some, if_neg c]; rfl) h1, Ev.congr (fun k => by rw [if_neg c]; rfl) h2, h3⟩
end ED
theorem FnExactEncodeDir (l : List S23) (g : l.length ≤ maxLen ∧ ∀ y ∈ l, (Lit.int .i64 y.f0).wf = true ∧ y.f1.size ≤ maxLen) : ∃ k, laws_FnExactEncodeDir.f k l = some true := by
  obtain ⟨z, hz, hz2⟩ := DR.szE l g.1 g.2
  refine Ev.rounds (Ev.congr (fun k => by unfold laws_FnExactEncodeDir.f; rfl) ?_)
  refine hz.bind ?_
  by_cases c : z < 0
  · exact Ev.congr (fun k => if_pos c) (Ev.now true)
  refine Ev.congr (fun k => if_neg c) ?_
  have hl : l.length ≤ 1048576 := (hz2.resolve_left c).1
  have hsum := (hz2.resolve_left c).2
  have t := DR.toES l hl
  have hl2 : (l.map DR.toE).length ≤ 1048576 := by simpa using hl
  have hsz : ∀ y ∈ l.map DR.toE, y.f1.size ≤ 1048576 := by
    intro y hy
    obtain ⟨x, hx, rfl⟩ := List.mem_map.1 hy
    exact Nat.le_trans (ED.mem_sum _ _ (List.mem_map_of_mem (f := fun e : S23 => e.f1.size) hx)) hsum
  have et := DR.eqES (l.map DR.toE) (by omega)
  have mt := DR.markES (l.map DR.toE) 1 (by omega) hl2 (by omega)
  obtain ⟨r, s, i, hr⟩ := ED.dir (l.map DR.toE) hsz
  have e := eqS_ev (F := laws_eqByteS.f) (fun _ _ _ => rfl) (fun _ _ _ _ => rfl) r (by omega)
  have m : Ev (fun k => laws_markByteS.f k r 1) _ := mark_ev (fun x => x % 256) (L := laws_markByteS.l0) (fun _ _ _ _ => rfl) r 1 (by omega) (by omega)
  have hd : Ev (fun k => laws_heldByteS.f k _ 1) _ := held_ev (fun x => x % 256) (L := laws_heldByteS.l0) (fun _ _ _ _ => rfl) r.length 1 (by omega) (by omega)
  refine t.bind ?_
  refine s.bind ?_
  refine t.bind ?_
  refine i.bind ?_
  refine e.bind ?_
  refine Ev.congr (fun k => if_pos rfl) ?_
  refine t.bind ?_
  refine et.bind ?_
  refine Ev.congr (fun k => if_pos rfl) ?_
  refine mt.bind ?_
  refine Ev.congr (fun k => if_neg (by simp only; omega)) ?_
  refine e.bind ?_
  refine Ev.step (fun k => by simp only [laws_FnExactEncodeDir.j0]; rw [if_neg (by decide)]) ?_
  refine m.bind ?_
  refine hd.bind ?_
  refine Ev.congr (fun k => if_neg (by omega)) ?_
  refine Ev.congr (fun k => if_pos rfl) ?_
  refine t.bind ?_
  refine i.bind ?_
  refine e.bind ?_
  refine Ev.congr (fun k => if_pos rfl) ?_
  refine hd.bind ?_
  refine Ev.congr (fun k => if_neg (by omega)) ?_
  exact Ev.congr (fun k => if_pos rfl) (Ev.now true)
end Go.Proofs.Ytiiifeajcigigaa.Pure
