/- FnDirs: in drawn entries each name is found at its first place; where all are good and different, one taken out leaves the others, each with its inode, and it is not found; the names are told in order. -/
import Derived.Test.YtiiifeajcigigaaPFnDirsx
import Derived.Test.YtiiifeajcigigaaHlp2
import Derived.Lib.Bytes
namespace Go.Proofs.Ytiiifeajcigigaa.Pure
open Go.RowKit Go.Proofs.Ytiiifeajcigigaa.PFnDirs Go.Proofs.YtiiifeajcigigaaW.PrintWords Go.Proofs.YtiiifeajcigigaaW.PrintLast Go.Proofs.YtiiifeajcigigaaW.PrintMore Go.Proofs.Ytiiifeajcigigaa.Hlp
set_option linter.unusedVariables false
namespace EP
/-- n bytes of v, the greatest first. -/
def be : Nat → Int → List Int
  | 0, _ => []
  | n + 1, v => be n (v / 256) ++ [v % 256]
theorem be_len : ∀ (n : Nat) (v : Int), (be n v).length = n
  | 0, _ => rfl
  | n + 1, v => by simp [be, be_len n]
/-- What both say. -/
def putOf (v n : Int) : List Int := if n < 1 ∨ n > 8 ∨ v < 0 ∨ v / 256 ^ n.toNat > 0 then [] else be n.toNat v
theorem putOf_len (v n : Int) : (putOf v n).length ≤ 8 := by
  unfold putOf; split
  · simp
  · rw [be_len]; omega
theorem div_pow (v : Int) (d : Nat) : v / 256 / 256 ^ d = v / 256 ^ (d + 1) := by
  rw [Int.ediv_ediv_of_nonneg (by omega), Int.pow_succ, Int.mul_comm]
theorem putSpec_loop (n : Int) (hn : n ≤ 8) (d : Nat) : ∀ (v : Int) (i : Nat) (out : List Int), 0 ≤ v → v ≤ 9223372036854775807 → (i : Int) + d = n → out.length = i →
    Ev (fun k => spec_PutNumber.l0 k v n out (i : Int)) (if v / 256 ^ d > 0 then [] else be d v ++ out) := by
  induction d with
  | zero =>
    intro v i out h0 h1 hi hl
    refine Ev.step (f := fun _ => some (if v / 256 ^ 0 > 0 then [] else be 0 v ++ out)) (fun k => ?_) (Ev.now _)
    simp only [spec_PutNumber.l0]
    rw [if_neg (by omega), show v / 256 ^ 0 = v by simp]
    by_cases h : v > 0
    · rw [if_pos h, if_pos h]
    · rw [if_neg h, if_neg h]; rfl
  | succ d ih =>
    intro v i out h0 h1 hi hl
    have h := ih (v / 256) (i + 1) ([v % 256] ++ out) (by omega) (by omega) (by omega) (by simp only [List.length_append, List.length_cons, List.length_nil]; omega)
    rw [div_pow] at h
    refine Ev.step (f := fun k => spec_PutNumber.l0 k (v / 256) n ([v % 256] ++ out) ((i + 1 : Nat) : Int)) (fun k => ?_) ?_
    · simp only [spec_PutNumber.l0, Option.bind_some]
      rw [if_pos (by omega), if_pos (by simp [hl]; omega), Int.tmod_eq_emod_of_nonneg h0, Int.tdiv_eq_ediv_of_nonneg h0, w64 (by omega) (by omega), w64 (by omega) (by omega), show v % 256 % 256 = v % 256 by omega]; rfl
    · rwa [show be (d + 1) v ++ out = be d (v / 256) ++ ([v % 256] ++ out) by simp [be]]
theorem putSpec_ev (v n : Int) (hv : v ≤ 9223372036854775807) : Ev (fun k => spec_PutNumber.f k v n) (putOf v n) := by
  have hj : ∀ k b, spec_PutNumber.j0 (k + 1) v n b = if b = true then (some (([] : List Int))) else (spec_PutNumber.l0 k v n (([] : List Int)) 0) := fun _ _ => rfl
  by_cases c1 : n < 1
  · have : putOf v n = [] := by unfold putOf; rw [if_pos (.inl c1)]
    rw [this]
    exact Ev.step (f := fun _ => some []) (fun k => by unfold spec_PutNumber.f; rw [if_pos c1, hj, if_pos rfl]) (Ev.now _)
  by_cases c2 : n > 8
  · have : putOf v n = [] := by unfold putOf; rw [if_pos (.inr (.inl c2))]
    rw [this]
    exact Ev.step (f := fun _ => some []) (fun k => by unfold spec_PutNumber.f; rw [if_neg c1, if_pos c2, hj, if_pos rfl]) (Ev.now _)
  by_cases c3 : v < 0
  · have : putOf v n = [] := by unfold putOf; rw [if_pos (.inr (.inr (.inl c3)))]
    rw [this]
    exact Ev.step (f := fun _ => some []) (fun k => by unfold spec_PutNumber.f; rw [if_neg c1, if_neg c2, hj, if_pos (decide_eq_true c3)]) (Ev.now _)
  have h := putSpec_loop n (by omega) n.toNat v 0 [] (by omega) hv (by omega) rfl
  have e : putOf v n = if v / 256 ^ n.toNat > 0 then [] else be n.toNat v ++ [] := by
    unfold putOf
    by_cases c : v / 256 ^ n.toNat > 0
    · rw [if_pos (.inr (.inr (.inr c))), if_pos c]
    · rw [if_neg (by omega), if_neg c]; simp
  rw [e]
  exact Ev.step (fun k => by unfold spec_PutNumber.f; rw [if_neg c1, if_neg c2, hj, if_neg (by simpa using c3)]) (show Ev (fun k => spec_PutNumber.l0 k v n [] 0) _ from h)
theorem bytes_some (s : ByteArray) (hs : s.size ≤ 1048576) (d : Nat) : ∀ i : Nat, i + d = s.size → ∃ r, Ev (fun k => spec_l10Bytes.l0 k s (i : Int)) r := by
  induction d with
  | zero =>
    intro i hi
    exact ⟨true, Ev.step (f := fun _ => some true) (fun k => by simp only [spec_l10Bytes.l0]; rw [if_neg (by omega)]) (Ev.now _)⟩
  | succ d ih =>
    intro i hi
    by_cases h1 : bt s (i : Int) < 33
    · exact ⟨false, Ev.step (f := fun _ => some false) (fun k => by simp only [spec_l10Bytes.l0]; rw [if_pos (by omega), if_pos (by omega), if_pos h1]) (Ev.now _)⟩
    · by_cases h2 : bt s (i : Int) > 126
      · exact ⟨false, Ev.step (f := fun _ => some false) (fun k => by simp only [spec_l10Bytes.l0]; rw [if_pos (by omega), if_pos (by omega), if_neg h1, if_pos h2]) (Ev.now _)⟩
      · obtain ⟨r, h⟩ := ih (i + 1) (by omega)
        exact ⟨r, Ev.step (fun k => by simp only [spec_l10Bytes.l0]; rw [if_pos (by omega), if_pos (by omega), if_neg h1, if_neg h2, show wrap64 ((i : Int) + 1) = ((i + 1 : Nat) : Int) by unfold wrap64; omega]) h⟩
theorem cut_some (s : ByteArray) (c : Int) (hs : s.size ≤ 1048576) (d : Nat) : ∀ (i q : Nat) (a : List ByteArray), i + d = s.size → q ≤ i → a.length ≤ i → ∃ r, Ev (fun k => spec_l10Cut.l0 k s c a (q : Int) (i : Int)) r := by
  induction d with
  | zero =>
    intro i q a hi hq ha
    exact ⟨_, Ev.step (f := fun _ => some (a ++ [s.extract q s.size])) (fun k => by simp only [spec_l10Cut.l0]; rw [if_neg (by omega), if_pos (by omega), if_pos (by omega), if_pos (by omega)]; simp) (Ev.now _)⟩
  | succ d ih =>
    intro i q a hi hq ha
    have hw : wrap64 ((i : Int) + 1) = ((i + 1 : Nat) : Int) := by unfold wrap64; omega
    by_cases h1 : bt s (i : Int) = c
    · obtain ⟨r, h⟩ := ih (i + 1) (i + 1) (a ++ [s.extract q i]) (by omega) (Nat.le_refl _) (by simp; omega)
      exact ⟨r, Ev.step (fun k => by simp only [spec_l10Cut.l0]; rw [if_pos (by omega), if_pos (by omega), if_pos h1, if_pos (by omega), if_pos (by omega), if_pos (by omega), if_pos (by omega), hw]; rfl) h⟩
    · obtain ⟨r, h⟩ := ih (i + 1) q a (by omega) (by omega) (by omega)
      exact ⟨r, Ev.step (fun k => by simp only [spec_l10Cut.l0]; rw [if_pos (by omega), if_pos (by omega), if_neg h1, hw]) h⟩
theorem spec_some (s : ByteArray) (hs : s.size ≤ 1048576) : ∃ r, Ev (fun k => spec_ValidName.f k s) r := by
  obtain ⟨b, hb⟩ := bytes_some s hs s.size 0 (by omega)
  obtain ⟨c, hc⟩ := cut_some s 47 hs s.size 0 0 [] (by omega) (Nat.le_refl _) (by simp)
  have hb' : Ev (fun k => spec_l10Bytes.f k s) b := hb
  have hc' : Ev (fun k => spec_l10Cut.f k s 47) c := hc
  have key : ∃ r, Ev (fun k => (if b = true then (if (s.size : Int) < 1 then (some false) else (if (s.size : Int) > 13 then (some false) else (if s.toList = ([46] : List UInt8) then (some false) else (if s.toList = ([46, 46] : List UInt8) then (some false) else ((spec_l10Cut.f k s 47).bind fun t111 => (some ((t111.length : Int) == 1))))))) else (some false))) r := by
    by_cases h1 : b = true
    · by_cases h2 : (s.size : Int) < 1
      · exact ⟨false, Ev.congr (fun k => by rw [if_pos h1, if_pos h2]) (Ev.now _)⟩
      · by_cases h3 : (s.size : Int) > 13
        · exact ⟨false, Ev.congr (fun k => by rw [if_pos h1, if_neg h2, if_pos h3]) (Ev.now _)⟩
        · by_cases h4 : s.toList = ([46] : List UInt8)
          · exact ⟨false, Ev.congr (fun k => by rw [if_pos h1, if_neg h2, if_neg h3, if_pos h4]) (Ev.now _)⟩
          · by_cases h5 : s.toList = ([46, 46] : List UInt8)
            · exact ⟨false, Ev.congr (fun k => by rw [if_pos h1, if_neg h2, if_neg h3, if_neg h4, if_pos h5]) (Ev.now _)⟩
            · exact ⟨_, Ev.congr (fun k => by rw [if_pos h1, if_neg h2, if_neg h3, if_neg h4, if_neg h5]) (hc'.bind (Ev.now _))⟩
    · exact ⟨false, Ev.congr (fun k => by rw [if_neg h1]) (Ev.now _)⟩
  obtain ⟨r, hr⟩ := key
  exact ⟨r, hb'.bind hr⟩
theorem ejoin_some (a b : List Int) (h : a.length + b.length < 140737488355328) : spec_l2Join.f a b = some (a ++ b) := by
  unfold spec_l2Join.f spec_l1Copy.f
  rw [Option.bind_some, if_pos (by simp; omega), Option.bind_some, if_pos (by simpa using h)]; rfl
theorem put_two (v : Int) (h0 : 0 ≤ v) (h1 : v < 65536) : putOf v 2 = be 2 v := by
  unfold putOf; rw [if_neg (by simp; omega)]; rfl
theorem eput2 (v : Int) (h0 : 0 ≤ v) (h1 : v < 65536) : Ev (fun k => spec_PutNumber.f k v 2) (be 2 v) := by
  have := putSpec_ev v 2 (by omega)
  rwa [put_two v h0 h1] at this
theorem valid13 (k : Nat) (s : ByteArray) (h : spec_ValidName.f k s = some true) : s.size ≤ 13 := by
  unfold spec_ValidName.f at h
  obtain ⟨b, _, h⟩ := Option.bind_eq_some_iff.mp h
  rcases Nat.lt_or_ge 13 s.size with c | c
  · exfalso
    by_cases h1 : b = true
    · rw [if_pos h1, if_neg (by omega), if_pos (by omega)] at h
      cases h
    · rw [if_neg h1] at h; cases h
  · exact c
theorem entry (n : Int) (s : ByteArray) (hs : s.size ≤ 1048576) : ∃ t, Ev (fun k => spec_EncodeEntry.f k n s) t ∧ t.length ≤ 16 := by
  obtain ⟨b, hb⟩ := spec_some s hs
  have hsz : b = true → s.size ≤ 13 := fun e => by
    obtain ⟨k, hk⟩ := Ev.rounds hb
    subst e
    exact valid13 k s hk
  have hg : Ev (fun k => spec_l10GoodEntry.f k n s) (decide (b = true ∧ 1 ≤ n ∧ n ≤ 256)) := by
    unfold spec_l10GoodEntry.f
    refine hb.bind ?_
    by_cases c : b = true
    · by_cases c2 : n ≥ 1
      · exact Ev.congr (fun k => by rw [if_pos c, if_pos c2, show decide (n ≤ 256) = decide (b = true ∧ 1 ≤ n ∧ n ≤ 256) from decide_eq_decide.2 ⟨fun h => ⟨c, c2, h⟩, fun h => h.2.2⟩]) (Ev.now _)
      · exact Ev.congr (fun k => by rw [if_pos c, if_neg c2, decide_eq_false (fun h => c2 h.2.1)]) (Ev.now _)
    · exact Ev.congr (fun k => by rw [if_neg c, decide_eq_false (fun h => c h.1)]) (Ev.now _)
  unfold spec_EncodeEntry.f
  by_cases g : b = true ∧ 1 ≤ n ∧ n ≤ 256
  · have h13 := hsz g.1
    have e2 : ((be 2 n ++ [(s.size : Int) % 256]) ++ bytesOf s).length = 3 + s.size := by simp only [List.length_append, be_len, List.length_cons, List.length_nil, bytesOf_length]
    have e1 : wrap64 (16 - (((be 2 n ++ [(s.size : Int) % 256]) ++ bytesOf s).length : Int)) = ((13 - s.size : Nat) : Int) := by
      rw [e2, w64 (by omega) (by omega)]; omega
    refine ⟨((be 2 n ++ [(s.size : Int) % 256]) ++ bytesOf s) ++ List.replicate (13 - s.size) 0, ?_, by rw [List.length_append, e2, List.length_replicate]; omega⟩
    refine hg.bind ?_
    refine Ev.congr (fun k => if_pos (decide_eq_true g)) ?_
    refine (eput2 n (by omega) (by omega)).bind ?_
    refine Ev.congr (fun k => ?_) (Ev.now _)
    rw [Option.bind_some, if_pos (by rw [be_len]; simp), Option.bind_some, if_pos (by simp only [List.length_append, be_len, List.length_cons, List.length_nil]; omega), Option.bind_some, e1]
    unfold spec_l2Zero.f
    rw [if_pos (by omega), if_pos (by omega), Option.bind_some, Int.toNat_natCast, ejoin_some _ _ (by rw [e2, List.length_replicate]; omega), Option.bind_some]
  · exact ⟨[], hg.bind (Ev.congr (fun k => if_neg (by simpa using g)) (Ev.now _)), by simp⟩
end EP
namespace FD
theorem rd106 (l : List S27) (i : Nat) (h : i < l.length) : rd_T27 l (i : Int) = l[i] := by simp [rd_T27, h]
/-- The state of a reader: the bytes, how many draws there were. -/
def okS (c : List Int) (a : Int) : Prop := c.length ≤ 1048576 ∧ (∀ x ∈ c, 0 ≤ x ∧ x ≤ 255) ∧ 0 ≤ a
theorem next_ev (c : List Int) (a z n : Int) (hc : c.length ≤ 1048576) (hb : ∀ x ∈ c, 0 ≤ x ∧ x ≤ 255) (h0 : 0 ≤ a) (h1 : a ≤ 1000000) (hn : n ≤ 1000000) : ∃ v, spec_l1Next.f c a z n = some (v, a + 1, z) ∧ 0 ≤ v ∧ (0 < n → v < n) ∧ (n < 1 → v = 0) := by
  unfold spec_l1Next.f
  have w1 : wrap64 (a + 1) = a + 1 := w64 (by omega) (by omega)
  have w2 : wrap64 (a + 1 - 1) = a := by rw [w64 (by omega) (by omega)]; omega
  rw [w1, w2, w1]
  by_cases c1 : n < 1
  · exact ⟨0, by rw [if_pos c1], by omega, fun h => by omega, fun _ => rfl⟩
  rw [if_neg c1]
  have modk : ∀ x : Int, 0 ≤ x → 0 ≤ Int.tmod x n ∧ (0 < n → Int.tmod x n < n) := fun x hx => by
    rw [Int.tmod_eq_emod_of_nonneg hx]
    exact ⟨Int.emod_nonneg _ (by omega), fun h => Int.emod_lt_of_pos _ h⟩
  by_cases c2 : (c.length : Int) = 0
  · have := modk (wrap64 (a * 7)) (by rw [w64 (by omega) (by omega)]; omega)
    exact ⟨_, by rw [if_pos c2, if_neg (by omega)], this.1, this.2, fun h => by omega⟩
  rw [if_neg c2]
  have hk : 0 < (c.length : Int) := by omega
  have m1 : 0 ≤ Int.tmod a (c.length : Int) ∧ Int.tmod a (c.length : Int) < (c.length : Int) := by
    rw [Int.tmod_eq_emod_of_nonneg h0]
    exact ⟨Int.emod_nonneg _ (by omega), Int.emod_lt_of_pos _ hk⟩
  have w3 : wrap64 (a + 1) = a + 1 := w1
  have m2 : 0 ≤ Int.tmod (a + 1) (c.length : Int) ∧ Int.tmod (a + 1) (c.length : Int) < (c.length : Int) := by
    rw [Int.tmod_eq_emod_of_nonneg (by omega)]
    exact ⟨Int.emod_nonneg _ (by omega), Int.emod_lt_of_pos _ hk⟩
  have r1 := hb _ (rd_mem m1.1 m1.2)
  have r2 := hb _ (rd_mem m2.1 m2.2)
  have d1 : 0 ≤ Int.tdiv a (c.length : Int) ∧ Int.tdiv a (c.length : Int) ≤ a := by
    rw [Int.tdiv_eq_ediv_of_nonneg h0]
    refine ⟨Int.ediv_nonneg h0 (by omega), Int.ediv_le_self _ h0⟩
  obtain ⟨y1, hy1⟩ : ∃ y, rd c (Int.tmod a (c.length : Int)) = y := ⟨_, rfl⟩
  obtain ⟨y2, hy2⟩ : ∃ y, rd c (Int.tmod (a + 1) (c.length : Int)) = y := ⟨_, rfl⟩
  obtain ⟨q, hq⟩ : ∃ y, Int.tdiv a (c.length : Int) = y := ⟨_, rfl⟩
  rw [hy1] at r1
  rw [hy2] at r2
  rw [hq] at d1
  rw [if_pos m1.1, if_pos m1.2, hy1, hq, hy2]
  have w4 : wrap64 y1 = y1 := w64 (by omega) (by omega)
  have w5 : wrap64 q = q := w64 (by omega) (by omega)
  have w6 : wrap64 (q * 37) = q * 37 := w64 (by omega) (by omega)
  have w7 : wrap64 (y1 + q * 37) = y1 + q * 37 := w64 (by omega) (by omega)
  rw [w4, w5, w6, w7]
  by_cases c3 : n > 200
  · have w8 : wrap64 ((y1 + q * 37) * 251) = (y1 + q * 37) * 251 := w64 (by omega) (by omega)
    have w9 : wrap64 (wrap64 y2 * 13) = y2 * 13 := by rw [w64 (x := y2) (by omega) (by omega), w64 (by omega) (by omega)]
    have wa : wrap64 ((y1 + q * 37) * 251 + y2 * 13) = (y1 + q * 37) * 251 + y2 * 13 := w64 (by omega) (by omega)
    have wb : wrap64 ((y1 + q * 37) * 251 + y2 * 13 + a) = (y1 + q * 37) * 251 + y2 * 13 + a := w64 (by omega) (by omega)
    rw [if_pos c3, if_pos m2.1, if_pos m2.2, if_neg (by omega), w8, w9, wa, wb]
    have := modk ((y1 + q * 37) * 251 + y2 * 13 + a) (by omega)
    exact ⟨_, rfl, this.1, this.2, fun h => by omega⟩
  · rw [if_neg c3, if_neg (by omega)]
    have := modk (y1 + q * 37) (by omega)
    exact ⟨_, rfl, this.1, this.2, fun h => by omega⟩
theorem chance_ev (c : List Int) (a z n : Int) (hc : c.length ≤ 1048576) (hb : ∀ x ∈ c, 0 ≤ x ∧ x ≤ 255) (h0 : 0 ≤ a) (h1 : a ≤ 1000000) (hn : n ≤ 1000000) : ∃ b, spec_l1Chance.f c a z n = some (b, a + 1, z) := by
  obtain ⟨v, h, _⟩ := next_ev c a z n hc hb h0 h1 hn
  exact ⟨_, by unfold spec_l1Chance.f; rw [h, Option.bind_some]⟩
theorem source_ev (c : List Int) (hc : c.length ≤ 1048576) : ∃ z, spec_l1Source.f c = some (c, 0, z) ∧ 0 ≤ z ∧ z ≤ 12 := by
  unfold spec_l1Source.f
  by_cases h : (wrap64 ((c.length : Int) / 16)) > 12
  · exact ⟨12, by rw [if_pos h], by omega, by omega⟩
  · rw [w64 (by omega) (by omega)] at h
    exact ⟨(c.length : Int) / 16, by rw [w64 (by omega) (by omega), if_neg h], by omega, by omega⟩
def up (l : List S27) (a : ByteArray) : Nat → Nat → Int
  | 0, _ => -1
  | d + 1, i => if (rd_T27 l (i : Int)).f1.toList = a.toList then (i : Int) else up l a d (i + 1)
theorem specUp (l : List S27) (a : ByteArray) (hl : l.length ≤ 1048576) (r : Int) : ∀ (i d : Nat), i + d = l.length → up l a l.length 0 = r → Ev (fun k => spec_DirFind.l0 k l a (up l a d i) ((i : Int) - 1)) r := by
  intro i
  induction i with
  | zero =>
    intro d hd hr
    rw [show d = l.length by omega, hr]
    exact Ev.step (f := fun _ => some r) (fun k => by simp only [spec_DirFind.l0]; rw [if_neg (by omega)]) (Ev.now _)
  | succ i ih =>
    intro d hd hr
    have h := ih (d + 1) (by omega) hr
    refine Ev.step (fun k => ?_) h
    have hw : wrap64 (((i + 1 : Nat) : Int) - 1 - 1) = (i : Int) - 1 := by rw [w64 (by omega) (by omega)]; omega
    have he : ((i + 1 : Nat) : Int) - 1 = (i : Int) := by omega
    simp only [spec_DirFind.l0, up]
    rw [if_pos (by omega), if_pos (by omega), if_pos (by omega), hw, he]
    split
    · rfl
    · rfl
theorem up_le (l : List S27) (a : ByteArray) : ∀ (d i j : Nat), i + d = l.length → i ≤ j → (h : j < l.length) → l[j].f1.toList = a.toList → 0 ≤ up l a d i ∧ up l a d i ≤ j := by
  intro d
  induction d with
  | zero => intro i j hd hj h; omega
  | succ d ih =>
    intro i j hd hj h he
    simp only [up]
    rw [rd106 l i (by omega)]
    by_cases c : l[i].f1.toList = a.toList
    · rw [if_pos c]; omega
    · rw [if_neg c]
      have hne : i ≠ j := fun e => c (by subst e; exact he)
      exact ih (i + 1) j (by omega) (by omega) h he
theorem up_first (l : List S27) (a : ByteArray) : ∀ (d i m : Nat), i + d = l.length → i ≤ m → (h : m < l.length) → l[m].f1.toList = a.toList → (∀ j (hj : j < l.length), i ≤ j → j < m → l[j].f1.toList ≠ a.toList) → up l a d i = m := by
  intro d
  induction d with
  | zero => intro i m hd hm h; omega
  | succ d ih =>
    intro i m hd hm h he hn
    simp only [up]
    rw [rd106 l i (by omega)]
    by_cases c : l[i].f1.toList = a.toList
    · rw [if_pos c]
      have : i = m := by
        rcases Nat.lt_or_ge i m with h2 | h2
        · exact absurd c (hn i (by omega) (Nat.le_refl _) h2)
        · omega
      rw [this]
    · rw [if_neg c]
      have hne : i ≠ m := fun e => c (by subst e; exact he)
      exact ih (i + 1) m (by omega) (by omega) h he (fun j hj h1 h2 => hn j hj (by omega) h2)
theorem find_ev (l : List S27) (a : ByteArray) (hl : l.length ≤ 1048576) : Ev (fun k => spec_DirFind.f k l a) (up l a l.length 0) := by
  have := specUp l a hl _ l.length 0 (by omega) rfl
  refine Ev.congr (fun k => ?_) this
  unfold spec_DirFind.f
  rw [w64 (by omega) (by omega)]; rfl
theorem implUp (l : List S27) (a : ByteArray) (hl : l.length ≤ 1048576) : ∀ (d i : Nat), i + d = l.length → Ev (fun k => impl_DirFind.l0 k a l (l.length : Int) (i : Int)) (up l a d i) := by
  intro d
  induction d with
  | zero =>
    intro i hi
    exact Ev.step (f := fun _ => some (-1)) (fun k => by simp only [impl_DirFind.l0]; rw [if_neg (by omega)]) (Ev.now _)
  | succ d ih =>
    intro i hi
    have h := ih (i + 1) (by omega)
    have hw : wrap64 ((i : Int) + 1) = ((i + 1 : Nat) : Int) := by rw [w64 (by omega) (by omega)]; rfl
    simp only [up]
    by_cases c : (rd_T27 l (i : Int)).f1.toList = a.toList
    · rw [if_pos c]
      exact Ev.step (f := fun _ => some (i : Int)) (fun k => by simp only [impl_DirFind.l0]; rw [if_pos (by omega), if_pos (by omega), if_pos (by omega), if_pos c]) (Ev.now _)
    · rw [if_neg c]
      exact Ev.step (fun k => by simp only [impl_DirFind.l0]; rw [if_pos (by omega), if_pos (by omega), if_pos (by omega), if_neg c, hw]) h
/-- The entries without the one at a. -/
def cutE (l : List S27) (a : Int) : List S27 := if 0 ≤ a ∧ a < l.length then (l.set a.toNat (rd_T27 l ((l.length : Int) - 1))).take (l.length - 1) else l
theorem cut_len (l : List S27) (a : Int) : (cutE l a).length ≤ l.length := by
  unfold cutE; split
  · rw [List.length_take, List.length_set]; omega
  · exact Nat.le_refl _
theorem impl_is (l : List S27) (a : Int) (hl : l.length ≤ 1048576) : impl_DirRemove.f l a = some (cutE l a) := by
  unfold impl_DirRemove.f cutE
  have hn : wrap64 ((l.length : Int) - 1) = (l.length : Int) - 1 := w64 (by omega) (by omega)
  simp only [Option.bind_some, List.nil_append]
  rw [if_pos (by simp; omega)]
  by_cases c : a < 0
  · rw [if_pos c, if_neg (by omega)]
  · by_cases d : a ≥ (l.length : Int)
    · rw [if_neg c, if_pos d, if_neg (by omega)]
    · rw [if_neg c, if_neg d, hn, if_pos (by omega), if_pos (by omega), if_pos (by omega), if_pos (by omega), if_pos (by omega), if_pos (by omega)]
      rw [show ((l.length : Int) - 1).toNat = l.length - 1 by omega]
def D (s : ByteArray) : List UInt8 := s.data.toList
def unD (l : List UInt8) : ByteArray := ⟨l.toArray⟩
theorem unD_D (s : ByteArray) : unD (D s) = s := rfl
theorem D_unD (l : List UInt8) : D (unD l) = l := rfl
theorem le_tr (a b c : List UInt8) (h1 : a ≤ b) (h2 : b ≤ c) : a ≤ c := List.le_trans h1 h2
theorem le_tot (a b : List UInt8) : a ≤ b ∨ b ≤ a := List.le_total a b
theorem le_asy (a b : List UInt8) (h1 : a ≤ b) (h2 : b ≤ a) : a = b := List.le_antisymm h1 h2
theorem sort_sorted (l : List (List UInt8)) : (l.mergeSort (fun x y => decide (x ≤ y))).Pairwise (fun x y => x ≤ y) := by
  have := List.pairwise_mergeSort (le := fun x y : List UInt8 => decide (x ≤ y)) (by intro a b c; simpa using le_tr a b c) (by intro a b; simpa using le_tot a b) l
  simpa using this
def namesOf (l : List S27) : List ByteArray := ((l.map (fun e => D e.f1)).mergeSort (fun x y => decide (x ≤ y))).map unD
theorem names_len (l : List S27) : (namesOf l).length = l.length := by simp [namesOf]
theorem impl_names (l : List S27) (hl : l.length ≤ 1000) : Ev (fun k => impl_DirNames.f k l) (namesOf l) := by
  have key := down (P := fun i => Ev (fun k => impl_DirNames.l0 k ((l.map (·.f1)).take i) l (l.length : Int) (i : Int)) (namesOf l)) l.length ?_ ?_
  · refine Ev.congr (fun k => by unfold impl_DirNames.f; rw [if_neg (by omega)]) ?_
    simpa using key
  · refine Ev.step (f := fun k => (sort_Strings.f ((l.map (·.f1)).take l.length)).bind fun t152 => (some t152)) (fun k => by simp only [impl_DirNames.l0]; rw [if_neg (by omega)]) (Ev.congr (f := fun _ => some (namesOf l)) (fun k => ?_) (Ev.now _))
    rw [List.take_of_length_le (by simp)]
    unfold sort_Strings.f
    rw [if_pos (by simp; omega), Option.bind_some, List.map_map]
    rfl
  · intro i hi h
    have hw : wrap64 ((i : Int) + 1) = ((i + 1 : Nat) : Int) := by rw [w64 (by omega) (by omega)]; rfl
    rw [List.take_succ_eq_append_getElem (by simpa using hi)] at h
    refine Ev.step (fun k => ?_) h
    simp only [impl_DirNames.l0]
    rw [if_pos (by omega), if_pos (by omega), if_pos (by omega), if_pos (by rw [List.length_take, List.length_map]; omega), hw, rd106 l i hi, List.getElem_map]
theorem rdS (l : List ByteArray) (i : Nat) (h : i < l.length) : rdOf ByteArray.empty l (i : Int) = l[i] := by simp [rdOf, h]
def nm (x : S27) : List UInt8 := x.f1.toList
theorem up_none (l : List S27) (a : ByteArray) : ∀ (d i : Nat), i + d = l.length → (∀ j (hj : j < l.length), i ≤ j → l[j].f1.toList ≠ a.toList) → up l a d i = -1 := by
  intro d
  induction d with
  | zero => intro i _ _; rfl
  | succ d ih =>
    intro i hi hn
    simp only [up]
    rw [rd106 l i (by omega), if_neg (hn i (by omega) (Nat.le_refl _))]
    exact ih (i + 1) (by omega) (fun j hj h => hn j hj (by omega))
theorem up_name (l : List S27) (a : ByteArray) : ∀ (d i : Nat), i + d = l.length → ∀ j : Nat, up l a d i = (j : Int) → ∃ h : j < l.length, l[j].f1.toList = a.toList := by
  intro d
  induction d with
  | zero => intro i _ j h; simp only [up] at h; omega
  | succ d ih =>
    intro i hi j h
    simp only [up] at h
    rw [rd106 l i (by omega)] at h
    by_cases c : l[i].f1.toList = a.toList
    · rw [if_pos c] at h
      obtain rfl : i = j := by omega
      exact ⟨by omega, c⟩
    · rw [if_neg c] at h
      exact ih (i + 1) (by omega) j h
/-- What is asked of a drawn name. -/
def nameOK (s : ByteArray) : Prop := s.size ≤ 1000 ∧ s.toList ≠ (⟨#[110, 111, 32, 115, 117, 99, 104, 32, 110, 97, 109, 101, 33]⟩ : ByteArray).toList
theorem ok_size (s : ByteArray) (h : s.size ≤ 1000) (h2 : s.size ≠ 13) : nameOK s := ⟨h, fun e => h2 (by
  rw [ByteArray.toList_eq, ByteArray.toList_eq] at e
  have := congrArg List.length e
  rw [Array.length_toList] at this
  exact this)⟩
theorem drawName_ev (c : List Int) (a z : Int) (hc : c.length ≤ 1048576) (hb : ∀ x ∈ c, 0 ≤ x ∧ x ≤ 255) (h0 : 0 ≤ a) (h1 : a ≤ 900000) : ∃ s a', spec_l10DrawName.f c a z = some (s, a', z) ∧ nameOK s ∧ a ≤ a' ∧ a' ≤ a + 2 := by
  obtain ⟨v, hv, v0, v1, _⟩ := next_ev c a z 40 hc hb h0 (by omega) (by omega)
  unfold spec_l10DrawName.f
  by_cases c0 : v = 0
  · exact ⟨(⟨#[97, 98, 99, 100, 101, 102, 103, 104, 105, 106, 107, 108, 109]⟩ : ByteArray), a + 1, by rw [hv, Option.bind_some, if_pos c0], ⟨by decide, by decide +kernel⟩, by omega, by omega⟩
  by_cases c1 : v = 1
  · exact ⟨(⟨#[120, 46, 121, 126, 33]⟩ : ByteArray), a + 1, by rw [hv, Option.bind_some, if_neg c0, if_pos c1], ⟨by decide, by decide +kernel⟩, by omega, by omega⟩
  obtain ⟨u, hu, u0, u1, _⟩ := next_ev c (a + 1) z 5 hc hb (by omega) (by omega) (by omega)
  exact ⟨_, a + 1 + 1, by rw [hv, Option.bind_some, if_neg c0, if_neg c1, hu, Option.bind_some], ok_size _ (by rw [strOfNums_size]; simp) (by rw [strOfNums_size]; simp), by omega, by omega⟩
theorem drawOdd_ev (c : List Int) (a z : Int) (hc : c.length ≤ 1048576) (hb : ∀ x ∈ c, 0 ≤ x ∧ x ≤ 255) (h0 : 0 ≤ a) (h1 : a ≤ 900000) : ∃ s, spec_l10DrawOdd.f c a z = some (s, a + 1, z) ∧ nameOK s := by
  unfold spec_l10DrawOdd.f
  have hall : ∀ s ∈ ([(⟨#[]⟩ : ByteArray), (⟨#[46]⟩ : ByteArray), (⟨#[46, 46]⟩ : ByteArray), (⟨#[46, 46, 46]⟩ : ByteArray), (⟨#[97, 98, 99, 100, 101, 102, 103, 104, 105, 106, 107, 108, 109, 110]⟩ : ByteArray), (⟨#[97, 32, 98]⟩ : ByteArray), (⟨#[97, 127]⟩ : ByteArray), (⟨#[97, 47, 98]⟩ : ByteArray), (⟨#[0]⟩ : ByteArray), (⟨#[97, 98, 99, 100, 101, 102, 103, 104, 105, 106, 107, 108, 109, 110, 111, 255]⟩ : ByteArray), (⟨#[45]⟩ : ByteArray), (⟨#[37]⟩ : ByteArray)] : List ByteArray), nameOK s := by
    intro s hs
    simp only [List.mem_cons, List.not_mem_nil, or_false] at hs
    rcases hs with rfl | rfl | rfl | rfl | rfl | rfl | rfl | rfl | rfl | rfl | rfl | rfl <;> exact ok_size _ (by decide) (by decide)
  have hlen : ([(⟨#[]⟩ : ByteArray), (⟨#[46]⟩ : ByteArray), (⟨#[46, 46]⟩ : ByteArray), (⟨#[46, 46, 46]⟩ : ByteArray), (⟨#[97, 98, 99, 100, 101, 102, 103, 104, 105, 106, 107, 108, 109, 110]⟩ : ByteArray), (⟨#[97, 32, 98]⟩ : ByteArray), (⟨#[97, 127]⟩ : ByteArray), (⟨#[97, 47, 98]⟩ : ByteArray), (⟨#[0]⟩ : ByteArray), (⟨#[97, 98, 99, 100, 101, 102, 103, 104, 105, 106, 107, 108, 109, 110, 111, 255]⟩ : ByteArray), (⟨#[45]⟩ : ByteArray), (⟨#[37]⟩ : ByteArray)] : List ByteArray).length = 12 := rfl
  generalize ([(⟨#[]⟩ : ByteArray), (⟨#[46]⟩ : ByteArray), (⟨#[46, 46]⟩ : ByteArray), (⟨#[46, 46, 46]⟩ : ByteArray), (⟨#[97, 98, 99, 100, 101, 102, 103, 104, 105, 106, 107, 108, 109, 110]⟩ : ByteArray), (⟨#[97, 32, 98]⟩ : ByteArray), (⟨#[97, 127]⟩ : ByteArray), (⟨#[97, 47, 98]⟩ : ByteArray), (⟨#[0]⟩ : ByteArray), (⟨#[97, 98, 99, 100, 101, 102, 103, 104, 105, 106, 107, 108, 109, 110, 111, 255]⟩ : ByteArray), (⟨#[45]⟩ : ByteArray), (⟨#[37]⟩ : ByteArray)] : List ByteArray) = l at hall hlen ⊢
  obtain ⟨v, hv, v0, v1, _⟩ := next_ev c a z (l.length : Int) hc hb h0 (by omega) (by omega)
  have hvl : v < (l.length : Int) := v1 (by omega)
  obtain ⟨n, rfl⟩ := Int.eq_ofNat_of_zero_le v0
  exact ⟨l[n]'(by omega), by rw [Option.bind_some, hv, Option.bind_some, if_pos v0, if_pos hvl]; simp [rdOf, show n < l.length by omega], hall _ (List.getElem_mem _)⟩
theorem drawEntry_ev (c : List Int) (a z : Int) (hc : c.length ≤ 1048576) (hb : ∀ x ∈ c, 0 ≤ x ∧ x ≤ 255) (h0 : 0 ≤ a) (h1 : a ≤ 800000) : ∃ n s a', Ev (fun k => spec_l10DrawEntry.f k c a z) (n, s, a', z) ∧ nameOK s ∧ a ≤ a' ∧ a' ≤ a + 10 := by
  obtain ⟨v, hv, v0, v1, _⟩ := next_ev c a z 30 hc hb h0 (by omega) (by omega)
  obtain ⟨s, a1, hs, ns, l1, u1⟩ := drawName_ev c (a + 1) z hc hb (by omega) (by omega)
  obtain ⟨w, hw, w0, w1, _⟩ := next_ev c a1 z 30 hc hb (by omega) (by omega) (by omega)
  have tail : ∀ (n : Int) (s : ByteArray) (b : Int), nameOK s → 0 ≤ b → b ≤ 900000 → ∃ n' s' a', Ev (fun k => spec_l10DrawEntry.j0 k w c b z n s) (n', s', a', z) ∧ nameOK s' ∧ b ≤ a' ∧ a' ≤ b + 2 := by
    intro n s b hs b0 b1
    obtain ⟨p, hp, _⟩ := next_ev c b z 2 hc hb b0 (by omega) (by omega)
    obtain ⟨q, hq, _⟩ := next_ev c (b + 1) z 2 hc hb (by omega) (by omega) (by omega)
    by_cases e1 : w = 1
    · exact ⟨wrap64 (256 + p), s, b + 1, Ev.step (f := fun _ => some (wrap64 (256 + p), s, b + 1, z)) (fun k => by simp only [spec_l10DrawEntry.j0]; rw [if_pos e1, hp, Option.bind_some, if_neg (by omega)]) (Ev.now _), hs, by omega, by omega⟩
    · by_cases e2 : w = 2
      · exact ⟨wrap64 (p - 1), s, b + 1, Ev.step (f := fun _ => some (wrap64 (p - 1), s, b + 1, z)) (fun k => by simp only [spec_l10DrawEntry.j0]; rw [if_neg e1, if_pos e2, hp, Option.bind_some]) (Ev.now _), hs, by omega, by omega⟩
      · exact ⟨n, s, b, Ev.step (f := fun _ => some (n, s, b, z)) (fun k => by simp only [spec_l10DrawEntry.j0]; rw [if_neg e1, if_neg e2]) (Ev.now _), hs, by omega, by omega⟩
  unfold spec_l10DrawEntry.f
  by_cases e0 : w = 0
  · obtain ⟨s2, hs2, ns2⟩ := drawOdd_ev c (a1 + 1) z hc hb (by omega) (by omega)
    obtain ⟨n', s', a', h1', h2', h3', h4'⟩ := tail (wrap64 (1 + v)) s2 (a1 + 1 + 1) ns2 (by omega) (by omega)
    exact ⟨n', s', a', Ev.congr (fun k => by rw [hv, Option.bind_some, hs, Option.bind_some, hw, Option.bind_some, if_pos e0, hs2, Option.bind_some]) h1', h2', by omega, by omega⟩
  · obtain ⟨n', s', a', h1', h2', h3', h4'⟩ := tail (wrap64 (1 + v)) s (a1 + 1) ns (by omega) (by omega)
    exact ⟨n', s', a', Ev.congr (fun k => by rw [hv, Option.bind_some, hs, Option.bind_some, hw, Option.bind_some, if_neg e0]) h1', h2', by omega, by omega⟩
def allOK (l : List S27) : Prop := ∀ x ∈ l, nameOK x.f1
theorem allOK_set {l : List S27} (h : allOK l) (i : Nat) (x : S27) (hx : nameOK x.f1) : allOK (l.set i x) := fun y hy => by
  rcases List.mem_or_eq_of_mem_set hy with h1 | h1
  · exact h y h1
  · subst h1; exact hx
theorem allOK_snoc {l : List S27} (h : allOK l) (x : S27) (hx : nameOK x.f1) : allOK (l ++ [x]) := fun y hy => by
  rcases List.mem_append.1 hy with h1 | h1
  · exact h y h1
  · rw [List.mem_singleton] at h1; subst h1; exact hx
theorem last_ev (c : List Int) (a z : Int) (hc : c.length ≤ 1048576) (hb : ∀ x ∈ c, 0 ≤ x ∧ x ≤ 255) (h0 : 0 ≤ a) (h1 : a ≤ 700000) (x : List S27) (hx : x.length ≤ 161) (ho : allOK x) (b : Bool) (hbx : b = true → 0 < x.length) :
    ∃ r a', Ev (fun k => spec_l10DrawEntries.j2 k x (x.length : Int) b c a z) (r, a', z) ∧ r.length = x.length ∧ allOK r ∧ a ≤ a' ∧ a' ≤ a + 20 := by
  have fin : ∀ (y : List S27) (p : Int), y.length = x.length → allOK y → 0 ≤ p → p ≤ 800000 → ∃ r a', (if (x.length : Int) > 1 then ((spec_l1Chance.f c p z 10).bind fun bt285 => (if bt285.1 = true then (if 0 ≤ (wrap64 ((x.length : Int) - 1)) then (if (wrap64 ((x.length : Int) - 1)) < (x.length : Int) then (if 0 < (x.length : Int) then (some ((y.set (0 : Int).toNat (⟨(rd_T27 y 0).f0, (rd_T27 y (wrap64 ((x.length : Int) - 1))).f1⟩ : S27)), bt285.2.1, bt285.2.2)) else (none)) else (none)) else (none)) else (some (y, bt285.2.1, bt285.2.2)))) else (some (y, p, z))) = some (r, a', z) ∧ r.length = x.length ∧ allOK r ∧ p ≤ a' ∧ a' ≤ p + 1 := by
    intro y p hy oy p0 p1
    by_cases g : (x.length : Int) > 1
    · obtain ⟨q, hq⟩ := chance_ev c p z 10 hc hb p0 (by omega) (by omega)
      have hw : wrap64 ((x.length : Int) - 1) = ((x.length - 1 : Nat) : Int) := by rw [w64 (by omega) (by omega)]; omega
      cases q with
      | true =>
        refine ⟨_, p + 1, by rw [if_pos g, hq, Option.bind_some, if_pos rfl, hw, if_pos (by omega), if_pos (by omega), if_pos (by omega)], by rw [List.length_set, hy], allOK_set oy _ _ ?_, by omega, by omega⟩
        show nameOK (rd_T27 y ((x.length - 1 : Nat) : Int)).f1
        rw [rd106 y _ (by omega)]
        exact oy _ (List.getElem_mem _)
      | false => exact ⟨y, p + 1, by rw [if_pos g, hq, Option.bind_some, if_neg (by simp)], hy, oy, by omega, by omega⟩
    · exact ⟨y, p, if_neg g, hy, oy, by omega, by omega⟩
  cases b with
  | false =>
    obtain ⟨r, a', h, h2, h3, h4, h5⟩ := fin x a rfl ho h0 (by omega)
    exact ⟨r, a', Ev.step (f := fun _ => some (r, a', z)) (fun k => by simp only [spec_l10DrawEntries.j2]; rw [if_neg (by simp)]; exact h) (Ev.now _), h2, h3, by omega, by omega⟩
  | true =>
    have hx0 := hbx rfl
    obtain ⟨v, hv, v0, v1, _⟩ := next_ev c a z (x.length : Int) hc hb h0 (by omega) (by omega)
    have hvl := v1 (by omega)
    obtain ⟨n, s, a1, he, ns, l1, u1⟩ := drawEntry_ev c (a + 1) z hc hb (by omega) (by omega)
    obtain ⟨r, a', h, h2, h3, h4, h5⟩ := fin (x.set v.toNat ⟨n, s⟩) a1 (by simp) (allOK_set ho _ _ ns) (by omega) (by omega)
    refine ⟨r, a', Ev.step (fun k => by simp only [spec_l10DrawEntries.j2]; rw [if_pos trivial, hv, Option.bind_some]) (he.bind (Ev.congr (f := fun _ => some (r, a', z)) (fun k => ?_) (Ev.now _))), h2, h3, by omega, by omega⟩
    rw [if_pos v0, if_pos hvl, Option.bind_some]
    exact h
theorem loop_ev (c : List Int) (z : Int) (hc : c.length ≤ 1048576) (hb : ∀ x ∈ c, 0 ≤ x ∧ x ≤ 255) (n : Nat) (hn : n ≤ 161) : ∀ (d i : Nat), i + d = n → ∀ (x : List S27) (a : Int), x.length = i → allOK x → 0 ≤ a → a ≤ 1000 * i + 1000 →
    ∃ r a', Ev (fun k => spec_l10DrawEntries.l0 k x (n : Int) (i : Int) c a z) (r, a', z) ∧ r.length = n ∧ allOK r ∧ 0 ≤ a' ∧ a' ≤ 700000 := by
  intro d
  induction d with
  | zero =>
    intro i hi x a hx ho h0 h1
    obtain rfl : i = n := by omega
    subst hx
    by_cases g : (x.length : Int) > 0
    · obtain ⟨q, hq⟩ := chance_ev c a z 6 hc hb h0 (by omega) (by omega)
      obtain ⟨r, a', h, h2, h3, h4, h5⟩ := last_ev c (a + 1) z hc hb (by omega) (by omega) x hn ho q (fun _ => by omega)
      refine ⟨r, a', Ev.step (fun k => ?_) h, h2, h3, by omega, by omega⟩
      simp only [spec_l10DrawEntries.l0]
      rw [if_neg (by omega), if_pos g, hq, Option.bind_some]
    · obtain ⟨r, a', h, h2, h3, h4, h5⟩ := last_ev c a z hc hb (by omega) (by omega) x hn ho false (fun h => by cases h)
      refine ⟨r, a', Ev.step (fun k => ?_) h, h2, h3, by omega, by omega⟩
      simp only [spec_l10DrawEntries.l0]
      rw [if_neg (by omega), if_neg g]
  | succ d ih =>
    intro i hi x a hx ho h0 h1
    have hw : wrap64 ((i : Int) + 1) = ((i + 1 : Nat) : Int) := by rw [w64 (by omega) (by omega)]; rfl
    obtain ⟨q, hq⟩ := chance_ev c a z 3 hc hb h0 (by omega) (by omega)
    have hsz : (strOfNums ([(wrap64 (40 + (wrap64 (Int.tdiv (i : Int) 20)))) % 256, (wrap64 (60 + (Int.tmod (i : Int) 20))) % 256] : List Int)).size = 2 := by rw [strOfNums_size]; rfl
    have head : ∀ (y : S27) (b : Int), nameOK y.f1 → 0 ≤ b → b ≤ a + 2 → ∃ r a', Ev (fun k => spec_l10DrawEntries.l0 k (x ++ [y]) (n : Int) ((i + 1 : Nat) : Int) c b z) (r, a', z) ∧ r.length = n ∧ allOK r ∧ 0 ≤ a' ∧ a' ≤ 700000 :=
      fun y b hy b0 b1 => ih (i + 1) (by omega) (x ++ [y]) b (by simp [hx]) (allOK_snoc ho y hy) b0 (by omega)
    have st : ∀ r a', Ev (fun k => (if q = true then (if (n : Int) < 20 then ((spec_l1Next.f c (a + 1) z 9).bind fun bt259 => (if x.length < 5864062014805 then (spec_l10DrawEntries.l0 k (x ++ [(⟨wrap64 (1 + bt259.1), strOfNums (([(wrap64 (97 + (i : Int))) % 256] : List Int))⟩ : S27)]) (n : Int) ((i + 1 : Nat) : Int) c bt259.2.1 bt259.2.2) else (none))) else (if x.length < 5864062014805 then (spec_l10DrawEntries.l0 k (x ++ [(⟨wrap64 (1 + (Int.tmod (i : Int) 256)), (⟨#[110]⟩ : ByteArray) ++ (strOfNums ([(wrap64 (40 + (wrap64 (Int.tdiv (i : Int) 20)))) % 256, (wrap64 (60 + (Int.tmod (i : Int) 20))) % 256] : List Int))⟩ : S27)]) (n : Int) ((i + 1 : Nat) : Int) c (a + 1) z) else (none))) else (if x.length < 5864062014805 then (spec_l10DrawEntries.l0 k (x ++ [(⟨wrap64 (1 + (Int.tmod (i : Int) 256)), (⟨#[110]⟩ : ByteArray) ++ (strOfNums ([(wrap64 (40 + (wrap64 (Int.tdiv (i : Int) 20)))) % 256, (wrap64 (60 + (Int.tmod (i : Int) 20))) % 256] : List Int))⟩ : S27)]) (n : Int) ((i + 1 : Nat) : Int) c (a + 1) z) else (none)))) (r, a', z) → Ev (fun k => spec_l10DrawEntries.l0 k x (n : Int) (i : Int) c a z) (r, a', z) := fun r a' h => by
      refine Ev.step (fun k => ?_) h
      simp only [spec_l10DrawEntries.l0]
      rw [if_pos (by omega), Option.bind_some, if_pos (by rw [hsz]; decide), hq, Option.bind_some, hw]
    have long : nameOK ((⟨#[110]⟩ : ByteArray) ++ (strOfNums ([(wrap64 (40 + (wrap64 (Int.tdiv (i : Int) 20)))) % 256, (wrap64 (60 + (Int.tmod (i : Int) 20))) % 256] : List Int))) := ok_size _ (by rw [ByteArray.size_append, hsz]; decide) (by rw [ByteArray.size_append, hsz]; decide)
    cases q with
    | true =>
      by_cases g : (n : Int) < 20
      · obtain ⟨v, hv, _⟩ := next_ev c (a + 1) z 9 hc hb (by omega) (by omega) (by omega)
        obtain ⟨r, a', h, h2⟩ := head ⟨wrap64 (1 + v), strOfNums (([(wrap64 (97 + (i : Int))) % 256] : List Int))⟩ (a + 1 + 1) (ok_size _ (by rw [strOfNums_size]; simp) (by rw [strOfNums_size]; simp)) (by omega) (by omega)
        exact ⟨r, a', st r a' (Ev.congr (fun k => by rw [if_pos rfl, if_pos g, hv, Option.bind_some, if_pos (by omega)]) h), h2⟩
      · obtain ⟨r, a', h, h2⟩ := head ⟨wrap64 (1 + (Int.tmod (i : Int) 256)), _⟩ (a + 1) long (by omega) (by omega)
        exact ⟨r, a', st r a' (Ev.congr (fun k => by rw [if_pos rfl, if_neg g, if_pos (by omega)]) h), h2⟩
    | false =>
      obtain ⟨r, a', h, h2⟩ := head ⟨wrap64 (1 + (Int.tmod (i : Int) 256)), _⟩ (a + 1) long (by omega) (by omega)
      exact ⟨r, a', st r a' (Ev.congr (fun k => by rw [if_neg (by simp), if_pos (by omega)]) h), h2⟩
theorem draw_ev (c : List Int) (hc : c.length ≤ 1048576) (hb : ∀ x ∈ c, 0 ≤ x ∧ x ≤ 255) : ∃ r t, Ev (fun k => spec_DrawDirRemove.f k c) (r, t) ∧ r.length ≤ 161 ∧ allOK r := by
  obtain ⟨z, hz, z0, z1⟩ := source_ev c hc
  have w6 : wrap64 (6 + z) = 6 + z := w64 (by omega) (by omega)
  obtain ⟨n, hn, n0, n1, _⟩ := next_ev c 0 z (6 + z) hc hb (by omega) (by omega) (by omega)
  have n2 := n1 (by omega)
  obtain ⟨q, hq⟩ := chance_ev c (0 + 1) z 30 hc hb (by omega) (by omega) (by omega)
  have body : ∀ (m : Int) (a : Int), 0 ≤ m → m ≤ 161 → 0 ≤ a → a ≤ 1000 → ∃ r a', Ev (fun k => spec_l10DrawEntries.j0 k [] m c a z) (r, a', z) ∧ r.length ≤ 161 ∧ allOK r ∧ 0 ≤ a' ∧ a' ≤ 700000 := by
    intro m a m0 m1 a0 a1
    obtain ⟨p, rfl⟩ := Int.eq_ofNat_of_zero_le m0
    obtain ⟨r, a', h, h2, h3, h4, h5⟩ := loop_ev c z hc hb p (by omega) p 0 (by omega) [] a rfl (fun x hx => by cases hx) a0 (by omega)
    exact ⟨r, a', Ev.step (fun k => by simp only [spec_l10DrawEntries.j0]; rfl) h, by omega, h3, h4, h5⟩
  have ent : ∃ r a', Ev (fun k => spec_l10DrawEntries.f k c 0 z) (r, a', z) ∧ r.length ≤ 161 ∧ allOK r ∧ 0 ≤ a' ∧ a' ≤ 700000 := by
    unfold spec_l10DrawEntries.f
    cases q with
    | true =>
      obtain ⟨v, hv, v0, v1, _⟩ := next_ev c (0 + 1 + 1) z 2 hc hb (by omega) (by omega) (by omega)
      have v2 := v1 (by omega)
      obtain ⟨r, a', h, h2⟩ := body (160 + v) (0 + 1 + 1 + 1) (by omega) (by omega) (by omega) (by omega)
      exact ⟨r, a', Ev.congr (fun k => by rw [Option.bind_some, w6, hn, Option.bind_some, hq, Option.bind_some, if_pos rfl, hv, Option.bind_some, w64 (x := 160 + v) (by omega) (by omega)]) h, h2⟩
    | false =>
      obtain ⟨r, a', h, h2⟩ := body n (0 + 1 + 1) (by omega) (by omega) (by omega) (by omega)
      exact ⟨r, a', Ev.congr (fun k => by rw [Option.bind_some, w6, hn, Option.bind_some, hq, Option.bind_some, if_neg (by simp)]) h, h2⟩
  obtain ⟨r, a', h, h2, h3, h4, h5⟩ := ent
  obtain ⟨v, hv, _⟩ := next_ev c a' z ((r.length : Int) + 2) hc hb h4 (by omega) (by omega)
  refine ⟨r, wrap64 (v - 1), Ev.congr (fun k => by unfold spec_DrawDirRemove.f; rw [hz, Option.bind_some]) (h.bind (Ev.congr (fun k => by rw [w64 (x := (r.length : Int) + 2) (by omega) (by omega), hv, Option.bind_some]) (Ev.now _))), h2, h3⟩
/-- Where all is encoded no name comes twice. -/
theorem encLoop (l : List S27) (hl : l.length ≤ 161) (hs : allOK l) : ∀ (d i : Nat), i + d = l.length → ∀ (b : List Int), b.length ≤ 16 * i → (∀ p q (hp : p < l.length) (hq : q < l.length), p < q → q < i → nm l[p] ≠ nm l[q]) →
    ∃ r, Ev (fun k => spec_EncodeDir.l0 k l b (i : Int)) r ∧ (r = [] ∨ ∀ p q (hp : p < l.length) (hq : q < l.length), p < q → nm l[p] ≠ nm l[q]) := by
  intro d
  induction d with
  | zero =>
    intro i hi b hb hv
    exact ⟨b, Ev.step (f := fun _ => some b) (fun k => by simp only [spec_EncodeDir.l0]; rw [if_neg (by omega)]) (Ev.now _), Or.inr (fun p q hp hq hpq => hv p q hp hq hpq (by omega))⟩
  | succ d ih =>
    intro i hi b hb hv
    have hil : i < l.length := by omega
    have hw : wrap64 ((i : Int) + 1) = ((i + 1 : Nat) : Int) := by rw [w64 (by omega) (by omega)]; rfl
    obtain ⟨t, e1, h16⟩ := EP.entry l[i].f0 l[i].f1 (by have := (hs _ (List.getElem_mem hil)).1; omega)
    by_cases c : (t.length : Int) = 0
    · refine ⟨[], ?_, Or.inl rfl⟩
      refine Ev.step (fun k => by simp only [spec_EncodeDir.l0]; rw [if_pos (by omega), if_pos (by omega), rd106 l i hil]) ?_
      exact e1.bind (Ev.congr (fun k => if_pos c) (Ev.now _))
    · have hf := find_ev l l[i].f1 (by omega)
      by_cases g : up l l[i].f1 l.length 0 = (i : Int)
      · obtain ⟨r, r1, r2⟩ := ih (i + 1) (by omega) (b ++ t) (by rw [List.length_append]; omega) (fun p q hp hq hpq hqi he => by
          rcases Nat.lt_or_ge q i with h | h
          · exact hv p q hp hq hpq h he
          · obtain rfl : q = i := by omega
            have hu := up_le l l[q].f1 l.length 0 p (by omega) (by omega) hp he
            omega)
        refine ⟨r, ?_, r2⟩
        refine Ev.step (fun k => by simp only [spec_EncodeDir.l0]; rw [if_pos (by omega), if_pos (by omega), rd106 l i hil, hw]) ?_
        refine e1.bind ?_
        refine Ev.congr (fun k => if_neg c) ?_
        exact hf.bind (Ev.congr (fun k => by rw [if_pos g, if_pos (by omega)]) r1)
      · refine ⟨[], ?_, Or.inl rfl⟩
        refine Ev.step (fun k => by simp only [spec_EncodeDir.l0]; rw [if_pos (by omega), if_pos (by omega), rd106 l i hil]) ?_
        refine e1.bind ?_
        refine Ev.congr (fun k => if_neg c) ?_
        exact hf.bind (Ev.congr (fun k => if_neg g) (Ev.now _))
theorem enc_ev (l : List S27) (hl : l.length ≤ 161) (hs : allOK l) : ∃ r, Ev (fun k => spec_EncodeDir.f k l) r ∧ (r = [] ∨ (0 < l.length ∧ ∀ p q (hp : p < l.length) (hq : q < l.length), p < q → nm l[p] ≠ nm l[q])) := by
  unfold spec_EncodeDir.f
  by_cases c : (l.length : Int) > 160
  · exact ⟨[], Ev.congr (fun k => by rw [Option.bind_some, if_pos c]) (Ev.now _), Or.inl rfl⟩
  · by_cases e : l = []
    · subst e
      exact ⟨[], Ev.congr (fun k => by rw [Option.bind_some, if_neg c]) (Ev.step (f := fun _ => some []) (fun k => by simp only [spec_EncodeDir.l0]; rw [if_neg (by simp)]) (Ev.now _)), Or.inl rfl⟩
    · obtain ⟨r, r1, r2⟩ := encLoop l hl hs l.length 0 (by omega) [] (by simp) (fun p q hp hq hpq h => by omega)
      refine ⟨r, Ev.congr (fun k => by rw [Option.bind_some, if_neg c]; rfl) r1, ?_⟩
      rcases r2 with h | h
      · exact Or.inl h
      · exact Or.inr ⟨List.length_pos_iff.2 e, h⟩
theorem at_ev (c : List Int) (n : Int) (hc : c.length ≤ 1048576) (hb : ∀ x ∈ c, 0 ≤ x ∧ x ≤ 255) (h1 : 1 ≤ n) (hn : n ≤ 1000) : ∃ v : Nat, laws_lwAt.f c 0 n = some (v : Int) ∧ (v : Int) < n := by
  have modk : ∀ x : Int, 0 ≤ x → ∃ v : Nat, Int.tmod x n = (v : Int) ∧ (v : Int) < n := fun x hx => by
    rw [Int.tmod_eq_emod_of_nonneg hx]
    obtain ⟨v, hv⟩ := Int.eq_ofNat_of_zero_le (Int.emod_nonneg x (show n ≠ 0 by omega))
    exact ⟨v, hv, by have := Int.emod_lt_of_pos x (show 0 < n by omega); omega⟩
  unfold laws_lwAt.f
  by_cases c1 : n ≤ 1
  · exact ⟨0, by rw [if_pos c1]; rfl, by omega⟩
  rw [if_neg c1]
  by_cases c2 : (c.length : Int) = 0
  · obtain ⟨v, hv, hv2⟩ := modk (wrap64 (0 * 7)) (by rw [w64 (by omega) (by omega)]; omega)
    exact ⟨v, by rw [if_pos c2, if_neg (by omega), hv], hv2⟩
  rw [if_neg c2]
  have hk : 0 < (c.length : Int) := by omega
  have m1 : 0 ≤ Int.tmod 0 (c.length : Int) ∧ Int.tmod 0 (c.length : Int) < (c.length : Int) := by
    rw [Int.tmod_eq_emod_of_nonneg (by omega)]
    exact ⟨Int.emod_nonneg _ (by omega), Int.emod_lt_of_pos _ hk⟩
  have w1 : wrap64 (0 + 1) = 1 := w64 (by omega) (by omega)
  have m2 : 0 ≤ Int.tmod 1 (c.length : Int) ∧ Int.tmod 1 (c.length : Int) < (c.length : Int) := by
    rw [Int.tmod_eq_emod_of_nonneg (by omega)]
    exact ⟨Int.emod_nonneg _ (by omega), Int.emod_lt_of_pos _ hk⟩
  have r1 := hb _ (rd_mem m1.1 m1.2)
  have r2 := hb _ (rd_mem m2.1 m2.2)
  have d1 : Int.tdiv 0 (c.length : Int) = 0 := Int.zero_tdiv _
  obtain ⟨y1, hy1⟩ : ∃ y, rd c (Int.tmod 0 (c.length : Int)) = y := ⟨_, rfl⟩
  obtain ⟨y2, hy2⟩ : ∃ y, rd c (Int.tmod 1 (c.length : Int)) = y := ⟨_, rfl⟩
  rw [hy1] at r1
  rw [hy2] at r2
  rw [if_pos m1.1, if_pos m1.2, w1, if_pos m2.1, if_pos m2.2, hy1, hy2, d1, if_neg (show ¬ n = 0 by omega), if_neg (show ¬ n = 0 by omega), w64 (x := y1) (by omega) (by omega), w64 (x := 0) (by omega) (by omega), w64 (x := y1 + 0) (by omega) (by omega), w64 (x := y2) (by omega) (by omega), w64 (x := (y1 + 0) * 37) (by omega) (by omega), w64 (x := (y1 + 0) * 37 + y2) (by omega) (by omega)]
  by_cases c3 : n > 200
  · obtain ⟨v, hv, hv2⟩ := modk ((y1 + 0) * 37 + y2) (by omega)
    exact ⟨v, by rw [if_pos c3, hv], hv2⟩
  · obtain ⟨v, hv, hv2⟩ := modk (y1 + 0) (by omega)
    exact ⟨v, by rw [if_neg c3, hv], hv2⟩
theorem cut_at (l : List S27) (p : Nat) (hp : p < l.length) (j : Nat) (hj : j < (cutE l (p : Int)).length) : (cutE l (p : Int)).length = l.length - 1 ∧ ((j ≠ p → ∃ h : j < l.length, (cutE l (p : Int))[j] = l[j]) ∧ (j = p → (cutE l (p : Int))[j] = l[l.length - 1]'(by omega))) := by
  have e : cutE l (p : Int) = (l.set p (l[l.length - 1]'(by omega))).take (l.length - 1) := by
    unfold cutE
    rw [if_pos ⟨by omega, by omega⟩, Int.toNat_natCast, show (l.length : Int) - 1 = ((l.length - 1 : Nat) : Int) by omega, rd106 l _ (by omega)]
  have hl : (cutE l (p : Int)).length = l.length - 1 := by rw [e, List.length_take, List.length_set]; omega
  refine ⟨hl, fun h => ⟨by omega, ?_⟩, fun h => ?_⟩
  · simp only [e, List.getElem_take, List.getElem_set, if_neg (Ne.symm h)]
  · subst h; simp only [e, List.getElem_take, List.getElem_set, if_pos]
/-- The walk over the entries behind the cut: each other entry is found where it is. -/
theorem loop2_ev (l z : List S27) (p : Nat) (hl : l.length ≤ 161) (hpl' : p < l.length) (hclen : z.length = l.length - 1)
    (hat : ∀ (j : Nat) (hj : j < z.length), z.length = l.length - 1 ∧ ((j ≠ p → ∃ h : j < l.length, z[j] = l[j]) ∧ (j = p → z[j] = l[l.length - 1]'(by omega))))
    (dif : ∀ i j (hi : i < l.length) (hj : j < l.length), i ≠ j → l[i].f1.toList ≠ l[j].f1.toList)
    (fnd : ∀ (x : List S27) (a : ByteArray), x.length ≤ 1048576 → Ev (fun k => impl_DirFind.f k x a) (FD.up x a x.length 0)) :
    Ev (fun k => laws_FnDirs.l2 k l (l.length : Int) (p : Int) z (0 : Int)) true := by
  have loop := down (P := fun i => Ev (fun k => laws_FnDirs.l2 k l (l.length : Int) (p : Int) (z) (i : Int)) true) l.length ?_ ?_
  · exact loop
  · exact Ev.step (f := fun _ => some true) (fun k => by simp only [laws_FnDirs.l2]; rw [if_neg (Int.lt_irrefl _)]) (Ev.now _)
  · intro i hi h
    have hw : wrap64 ((i : Int) + 1) = ((i + 1 : Nat) : Int) := by rw [w64 (by omega) (by omega)]; rfl
    refine Ev.step (fun k => by simp only [laws_FnDirs.l2]; rw [if_pos (by omega), if_pos (by omega), if_pos (by omega), FD.rd106 l i hi, hw]) ?_
    refine (fnd (z) l[i].f1 (by omega)).bind ?_
    by_cases e : (i : Int) = (p : Int)
    · exact Ev.congr (fun k => if_pos e) h
    · have hip : i ≠ p := by omega
      obtain ⟨q, hq, hqe⟩ : ∃ q, ∃ hq : q < (z).length, (z)[q] = l[i] := by
        by_cases e2 : i = l.length - 1
        · have hpp : p < (z).length := by omega
          exact ⟨p, hpp, by rw [(hat p hpp).2.2 rfl]; congr 1; omega⟩
        · have hii : i < (z).length := by omega
          obtain ⟨_, k3⟩ := (hat i hii).2.1 hip
          exact ⟨i, hii, k3⟩
      have hu := FD.up_le (z) l[i].f1 (z).length 0 q (by omega) (by omega) hq (by rw [hqe])
      obtain ⟨g, hg⟩ := Int.eq_ofNat_of_zero_le hu.1
      obtain ⟨hgl, hgn⟩ := FD.up_name _ _ _ 0 (by omega) g hg
      have hge : (z)[g] = l[i] := by
        obtain ⟨_, k1, k2⟩ := hat g hgl
        by_cases e3 : g = p
        · rw [k2 e3] at hgn ⊢
          have : l.length - 1 = i := by
            rcases Decidable.em (l.length - 1 = i) with h | h
            · exact h
            · exact absurd hgn (dif _ _ (by omega) hi h)
          simp [this]
        · obtain ⟨hgl2, k3⟩ := k1 e3
          rw [k3] at hgn ⊢
          have : g = i := by
            rcases Decidable.em (g = i) with h | h
            · exact h
            · exact absurd hgn (dif _ _ hgl2 hi h)
          simp [this]
      rw [hg]
      refine Ev.congr (fun k => ?_) h
      rw [if_neg e, if_neg (by omega), if_neg (by omega), if_pos (by omega), if_pos (by omega), FD.rd106 _ g hgl, hge, if_neg (by simp)]
end FD
theorem FnDirs : laws_FnDirs.Pure := by
  intro c m _ hcl hcw _ hml hmw
  have j0s : ∀ k b, laws_FnDirs.j0 (k + 1) c m b = if b = true then (some true) else ((spec_DrawDirRemove.f k c).bind fun bt322 => ((some (([] : List (S27)) : List (S27))).bind fun y326 => (if y326.length + bt322.1.length < 5864062014805 then ((impl_DirNames.f k (y326 ++ bt322.1)).bind fun t332 => (if (bt322.1.length : Int) > 1000 then (some ((t332.length : Int) == 0)) else (if (t332.length : Int) = (bt322.1.length : Int) then (laws_FnDirs.l0 k m bt322.1 (bt322.1.length : Int) t332 0) else (some false)))) else (none)))) := fun _ _ => rfl
  have tr : Ev (fun k => laws_FnDirs.j0 k c m true) true := Ev.step (f := fun _ => some true) (fun k => by rw [j0s, if_pos rfl]) (Ev.now _)
  by_cases h1 : (c.length : Int) > 1048576
  · exact Ev.rounds (Ev.congr (fun k => by unfold laws_FnDirs.f; rw [if_pos h1]) tr)
  by_cases h2 : (m.length : Int) > 1048576
  · exact Ev.rounds (Ev.congr (fun k => by unfold laws_FnDirs.f; rw [if_neg h1, decide_eq_true h2]) tr)
  have hc3 : c.length ≤ 1048576 := by omega
  have hcb : ∀ x ∈ c, 0 ≤ x ∧ x ≤ 255 := fun x hx => wfb (hcw x hx)
  have hmb : ∀ x ∈ m, 0 ≤ x ∧ x ≤ 255 := fun x hx => wfb (hmw x hx)
  refine Ev.rounds (Ev.congr (f := fun k => laws_FnDirs.j0 k c m false) (fun k => by unfold laws_FnDirs.f; rw [if_neg h1, decide_eq_false h2]) ?_)
  obtain ⟨l, t, hd, hl, ho⟩ := FD.draw_ev c (by omega) hcb
  refine Ev.step (fun k => by rw [j0s, if_neg (by simp)]) ?_
  refine hd.bind ?_
  refine Ev.congr (fun k => by rw [Option.bind_some, List.nil_append, if_pos (by show 0 + l.length < _; omega)]) ?_
  refine (FD.impl_names l (by omega)).bind ?_
  have hnl := FD.names_len l
  refine Ev.congr (fun k => by rw [if_neg (by show ¬ ((l.length : Int) > 1000); omega), if_pos (by show ((FD.namesOf l).length : Int) = (l.length : Int); omega)]) ?_
  clear hcl hml hcw hmw h1 tr j0s
  have h2 : m.length ≤ 1048576 := by omega
  have fnd : ∀ (x : List S27) (a : ByteArray), x.length ≤ 1048576 → Ev (fun k => impl_DirFind.f k x a) (FD.up x a x.length 0) := fun x a hx => FD.implUp x a hx x.length 0 (by omega)
  -- what is behind the loops
  have rest : Ev (fun k => laws_FnDirs.l1 k m l (l.length : Int) (l.length : Int)) true := by
    obtain ⟨r, hr, hr2⟩ := FD.enc_ev l hl ho
    refine Ev.step (fun k => by simp only [laws_FnDirs.l1]; rw [if_neg (by omega)]) ?_
    refine hr.bind ?_
    rcases hr2 with rfl | ⟨hpos, hdif⟩
    · refine Ev.congr (fun k => if_pos rfl) ?_
      refine (fnd l _ (by omega)).bind ?_
      rw [FD.up_none l _ l.length 0 (by omega) (fun j hj _ => (ho _ (List.getElem_mem hj)).2)]
      exact Ev.now _
    by_cases hr0 : (r.length : Int) = 0
    · refine Ev.congr (fun k => if_pos hr0) ?_
      refine (fnd l _ (by omega)).bind ?_
      rw [FD.up_none l _ l.length 0 (by omega) (fun j hj _ => (ho _ (List.getElem_mem hj)).2)]
      exact Ev.now _
    refine Ev.congr (fun k => if_neg hr0) ?_
    obtain ⟨p, hp, hpl⟩ := FD.at_ev m (l.length : Int) (by omega) hmb (by omega) (by omega)
    have hpl' : p < l.length := by omega
    have hcut := FD.impl_is l (p : Int) (by omega)
    have hfull : impl_DirRemove.f l (l.length : Int) = some l := by
      rw [FD.impl_is l (l.length : Int) (by omega)]
      unfold FD.cutE; rw [if_neg (by omega)]
    have hclen : (FD.cutE l (p : Int)).length = l.length - 1 := by
      rcases Nat.eq_zero_or_pos (FD.cutE l (p : Int)).length with h | h
      · unfold FD.cutE at h ⊢
        rw [if_pos ⟨by omega, by omega⟩] at h ⊢
        rw [List.length_take, List.length_set] at h ⊢; omega
      · exact (FD.cut_at l p hpl' 0 h).1
    have hat := FD.cut_at l p hpl'
    generalize FD.cutE l (p : Int) = z at hcut hclen hat
    have dif : ∀ i j (hi : i < l.length) (hj : j < l.length), i ≠ j → l[i].f1.toList ≠ l[j].f1.toList := fun i j hi hj hij he => by
      rcases Nat.lt_or_ge i j with h | h
      · exact hdif i j hi hj h he
      · exact hdif j i hj hi (by omega) he.symm
    have hnone : FD.up (z) l[p].f1 (z).length 0 = -1 := FD.up_none _ _ _ 0 (by omega) (fun j hj _ => by
      obtain ⟨_, k1, k2⟩ := hat j hj
      by_cases e : j = p
      · rw [k2 e]; exact dif _ _ (by omega) hpl' (by omega)
      · obtain ⟨hjl, k3⟩ := k1 e
        rw [k3]; exact dif _ _ hjl hpl' e)
    refine Ev.congr (fun k => by rw [hp, Option.bind_some, Option.bind_some, List.nil_append, if_pos (by show 0 + l.length < _; omega), hcut, Option.bind_some, if_pos (by rw [hclen, w64 (by omega) (by omega)]; omega), if_pos (by omega), if_pos hpl, FD.rd106 l p hpl']) ?_
    refine (fnd (z) l[p].f1 (by omega)).bind ?_
    rw [hnone]
    refine Ev.congr (fun k => by rw [if_pos rfl, hfull, Option.bind_some]) ?_
    refine Ev.step (fun k => by simp only [laws_FnDirs.j3]; rw [if_neg (by simp)]) ?_
    exact FD.loop2_ev l z p hl hpl' hclen hat dif fnd
  have mid : Ev (fun k => laws_FnDirs.l1 k m l (l.length : Int) 0) true := by
    refine down (P := fun i => Ev (fun k => laws_FnDirs.l1 k m l (l.length : Int) (i : Int)) true) l.length rest ?_
    intro i hi h
    have hw : wrap64 ((i : Int) + 1) = ((i + 1 : Nat) : Int) := by rw [w64 (by omega) (by omega)]; rfl
    have hu := FD.up_le l l[i].f1 l.length 0 i (by omega) (by omega) hi rfl
    obtain ⟨g, hg⟩ := Int.eq_ofNat_of_zero_le hu.1
    obtain ⟨hgl, hgn⟩ := FD.up_name l l[i].f1 l.length 0 (by omega) g hg
    refine Ev.step (fun k => by simp only [laws_FnDirs.l1]; rw [if_pos (by omega), if_pos (by omega), if_pos (by omega), FD.rd106 l i hi, hw]) ?_
    refine (fnd l l[i].f1 (by omega)).bind ?_
    rw [hg]
    exact Ev.congr (fun k => by rw [if_neg (by omega), if_neg (by omega), if_pos (by omega), if_pos (by omega), FD.rd106 l g hgl, if_pos hgn]) h
  have srt : (FD.namesOf l).Pairwise (fun x y => FD.D x ≤ FD.D y) := by
    unfold FD.namesOf
    rw [List.pairwise_map]
    exact FD.sort_sorted _
  have fst : ∀ i, i ≤ l.length → Ev (fun k => laws_FnDirs.l0 k m l (l.length : Int) (FD.namesOf l) (i : Int)) true := by
    intro i hi
    have key : ∀ d i : Nat, i + d = l.length → Ev (fun k => laws_FnDirs.l0 k m l (l.length : Int) (FD.namesOf l) (i : Int)) true := by
      intro d
      induction d with
      | zero =>
        intro i hi
        exact Ev.step (fun k => by simp only [laws_FnDirs.l0]; rw [w64 (by omega) (by omega), if_neg (by omega)]) mid
      | succ d ih =>
        intro i hi
        have hw : wrap64 ((i : Int) + 1) = ((i + 1 : Nat) : Int) := by rw [w64 (by omega) (by omega)]; rfl
        by_cases g : i + 1 < l.length
        · refine Ev.step (fun k => ?_) (ih (i + 1) (by omega))
          simp only [laws_FnDirs.l0]
          rw [hw, if_pos (by omega), if_pos (by omega), if_pos (by omega), if_pos (by omega), if_pos (by omega), FD.rdS _ i (by omega), FD.rdS _ (i + 1) (by omega)]
          refine if_neg ?_
          rw [ByteArray.toList_eq, ByteArray.toList_eq, bytesLess_eq]
          have := List.pairwise_iff_getElem.1 srt i (i + 1) (by omega) (by omega) (by omega)
          simpa [FD.D] using List.not_lt.2 this
        · exact Ev.step (fun k => by simp only [laws_FnDirs.l0]; rw [hw, if_neg (by omega)]) mid
    exact key (l.length - i) i (by omega)
  exact fst 0 (by omega)
end Go.Proofs.Ytiiifeajcigigaa.Pure
