/- FnEscape: of every drawn block the program's Escape does not begin with the magic, says whether it did, and Unescape brings the block back. -/
import Derived.Test.YtmaeofmmainmlaaPFnEscapex3
import Derived.Test.YtmaeofmmainmlaaHlp
import Derived.Lib.Bytes
namespace Go.Proofs.Ytmaeofmmainmlaa.Pure
open Go.RowKit Go.Proofs.Ytmaeofmmainmlaa.PFnEscape Go.Proofs.YtmaeofmmainmlaaW.PrintWords Go.Proofs.YtmaeofmmainmlaaW.PrintLast Go.Proofs.YtmaeofmmainmlaaW.PrintMore Go.Proofs.Ytmaeofmmainmlaa.Hlp
set_option linter.unusedVariables false
namespace FE
theorem magic_str : (strOfNums [106, 108, 111, 103]).toList = ([106, 108, 111, 103] : List UInt8) := by decide +kernel
theorem zero_str : (strOfNums [0, 0, 0, 0]).toList = ([0, 0, 0, 0] : List UInt8) := by decide +kernel
/-- The state of a reader: the bytes, how many draws there were. -/
def okS (c : List Int) (a : Int) : Prop := c.length ≤ 1048576 ∧ (∀ x ∈ c, 0 ≤ x ∧ x ≤ 255) ∧ 0 ≤ a
theorem next_ev (c : List Int) (a z n : Int) (hc : c.length ≤ 1048576) (hb : ∀ x ∈ c, 0 ≤ x ∧ x ≤ 255) (h0 : 0 ≤ a) (h1 : a ≤ 1000000) (hn : n ≤ 1000000) : ∃ v, spec_l1Next.f c a z n = some (v, a + 1, z) ∧ 0 ≤ v ∧ (0 < n → v < n) ∧ (n < 1 → v = 0) := by
  unfold spec_l1Next.f
  have w1 : wrap64 (a + 1) = a + 1 := w64 (by omega) (by omega)
  have w2 : wrap64 (a + 1 - 1) = a := by rw [w64 (by omega) (by omega)]; omega
  rw [w1, w2, w1]
  by_cases c1 : n < 1
  · exact ⟨0, by rw [if_pos c1], by omega, fun h => by omega, fun _ => rfl⟩
  rw [if_neg c1]
  have modk : ∀ x : Int, 0 ≤ x → 0 ≤ Int.tmod x n ∧ (0 < n → Int.tmod x n < n) := fun x hx => by
    rw [Int.tmod_eq_emod_of_nonneg hx]
    exact ⟨Int.emod_nonneg _ (by omega), fun h => Int.emod_lt_of_pos _ h⟩
  by_cases c2 : (c.length : Int) = 0
  · have := modk (wrap64 (a * 7)) (by rw [w64 (by omega) (by omega)]; omega)
    exact ⟨_, by rw [if_pos c2, if_neg (by omega)], this.1, this.2, fun h => by omega⟩
  rw [if_neg c2]
  have hk : 0 < (c.length : Int) := by omega
  have m1 : 0 ≤ Int.tmod a (c.length : Int) ∧ Int.tmod a (c.length : Int) < (c.length : Int) := by
    rw [Int.tmod_eq_emod_of_nonneg h0]
    exact ⟨Int.emod_nonneg _ (by omega), Int.emod_lt_of_pos _ hk⟩
  have w3 : wrap64 (a + 1) = a + 1 := w1
  have m2 : 0 ≤ Int.tmod (a + 1) (c.length : Int) ∧ Int.tmod (a + 1) (c.length : Int) < (c.length : Int) := by
    rw [Int.tmod_eq_emod_of_nonneg (by omega)]
    exact ⟨Int.emod_nonneg _ (by omega), Int.emod_lt_of_pos _ hk⟩
  have r1 := hb _ (rd_mem m1.1 m1.2)
  have r2 := hb _ (rd_mem m2.1 m2.2)
  have d1 : 0 ≤ Int.tdiv a (c.length : Int) ∧ Int.tdiv a (c.length : Int) ≤ a := by
    rw [Int.tdiv_eq_ediv_of_nonneg h0]
    refine ⟨Int.ediv_nonneg h0 (by omega), Int.ediv_le_self _ h0⟩
  obtain ⟨y1, hy1⟩ : ∃ y, rd c (Int.tmod a (c.length : Int)) = y := ⟨_, rfl⟩
  obtain ⟨y2, hy2⟩ : ∃ y, rd c (Int.tmod (a + 1) (c.length : Int)) = y := ⟨_, rfl⟩
  obtain ⟨q, hq⟩ : ∃ y, Int.tdiv a (c.length : Int) = y := ⟨_, rfl⟩
  rw [hy1] at r1
  rw [hy2] at r2
  rw [hq] at d1
  rw [if_pos m1.1, if_pos m1.2, hy1, hq, hy2]
  have w4 : wrap64 y1 = y1 := w64 (by omega) (by omega)
  have w5 : wrap64 q = q := w64 (by omega) (by omega)
  have w6 : wrap64 (q * 37) = q * 37 := w64 (by omega) (by omega)
  have w7 : wrap64 (y1 + q * 37) = y1 + q * 37 := w64 (by omega) (by omega)
  rw [w4, w5, w6, w7]
  by_cases c3 : n > 200
  · have w8 : wrap64 ((y1 + q * 37) * 251) = (y1 + q * 37) * 251 := w64 (by omega) (by omega)
    have w9 : wrap64 (wrap64 y2 * 13) = y2 * 13 := by rw [w64 (x := y2) (by omega) (by omega), w64 (by omega) (by omega)]
    have wa : wrap64 ((y1 + q * 37) * 251 + y2 * 13) = (y1 + q * 37) * 251 + y2 * 13 := w64 (by omega) (by omega)
    have wb : wrap64 ((y1 + q * 37) * 251 + y2 * 13 + a) = (y1 + q * 37) * 251 + y2 * 13 + a := w64 (by omega) (by omega)
    rw [if_pos c3, if_pos m2.1, if_pos m2.2, if_neg (by omega), w8, w9, wa, wb]
    have := modk ((y1 + q * 37) * 251 + y2 * 13 + a) (by omega)
    exact ⟨_, rfl, this.1, this.2, fun h => by omega⟩
  · rw [if_neg c3, if_neg (by omega)]
    have := modk (y1 + q * 37) (by omega)
    exact ⟨_, rfl, this.1, this.2, fun h => by omega⟩
theorem chance_ev (c : List Int) (a z n : Int) (hc : c.length ≤ 1048576) (hb : ∀ x ∈ c, 0 ≤ x ∧ x ≤ 255) (h0 : 0 ≤ a) (h1 : a ≤ 1000000) (hn : n ≤ 1000000) : ∃ b, spec_l1Chance.f c a z n = some (b, a + 1, z) := by
  obtain ⟨v, h, _⟩ := next_ev c a z n hc hb h0 h1 hn
  exact ⟨_, by unfold spec_l1Chance.f; rw [h, Option.bind_some]⟩
theorem source_ev (c : List Int) (hc : c.length ≤ 1048576) : ∃ z, spec_l1Source.f c = some (c, 0, z) ∧ 0 ≤ z ∧ z ≤ 12 := by
  unfold spec_l1Source.f
  by_cases h : (wrap64 ((c.length : Int) / 16)) > 12
  · exact ⟨12, by rw [if_pos h], by omega, by omega⟩
  · rw [w64 (by omega) (by omega)] at h
    exact ⟨(c.length : Int) / 16, by rw [w64 (by omega) (by omega), if_neg h], by omega, by omega⟩
theorem magic_ev (c : List Int) (a z : Int) (hc : c.length ≤ 1048576) (hb : ∀ x ∈ c, 0 ≤ x ∧ x ≤ 255) (h0 : 0 ≤ a) (h1 : a ≤ 1000000) : ∃ m, spec_l1Magic.f c a z = some (m, a + 1, z) ∧ m.length = 4 ∧ ∀ x ∈ m, 0 ≤ x ∧ x ≤ 255 := by
  obtain ⟨b, h⟩ := chance_ev c a z 6 hc hb h0 h1 (by omega)
  unfold spec_l1Magic.f
  cases b with
  | true => exact ⟨[106, 108, 111, 104], by rw [h, Option.bind_some, if_pos rfl], rfl, by decide⟩
  | false => exact ⟨[106, 108, 111, 103], by rw [h, Option.bind_some, if_neg (by simp)], rfl, by decide⟩
theorem lay_ev (c : List Int) (a z : Int) (m : List Int) (hm : m.length = 4) (hmb : ∀ x ∈ m, 0 ≤ x ∧ x ≤ 255) (d : Nat) : ∀ (i : Nat) (x : List Int), i + d = 4 → x.length = 64 → (∀ y ∈ x, 0 ≤ y ∧ y ≤ 255) → ∃ r, Ev (fun k => spec_l1Fill.l1 k x m (i : Int) c a z) (r, a, z) ∧ r.length = 64 ∧ ∀ y ∈ r, 0 ≤ y ∧ y ≤ 255 := by
  induction d with
  | zero => intro i x hi hx hb; exact ⟨x, Ev.step (f := fun _ => some (x, a, z)) (fun k => by simp only [spec_l1Fill.l1]; rw [if_neg (by omega)]) (Ev.now _), hx, hb⟩
  | succ d ih =>
    intro i x hi hx hb
    have hw : wrap64 ((i : Int) + 1) = ((i + 1 : Nat) : Int) := by rw [w64 (by omega) (by omega)]; rfl
    have hr := hmb _ (rd_mem (l := m) (i := (i : Int)) (by omega) (by omega))
    obtain ⟨r, h1, h2, h3⟩ := ih (i + 1) (x.set i (rd m (i : Int))) (by omega) (by simpa using hx) (fun y hy => by
      rcases List.mem_or_eq_of_mem_set hy with h | h
      · exact hb y h
      · subst h; exact hr)
    refine ⟨r, Ev.step (fun k => ?_) h1, h2, h3⟩
    simp only [spec_l1Fill.l1]
    rw [if_pos (by omega), if_pos (by omega), if_pos (by omega), hw, Int.toNat_natCast]
theorem fill_some (c : List Int) (a z : Int) (hc : c.length ≤ 1048576) (hb : ∀ x ∈ c, 0 ≤ x ∧ x ≤ 255) (h0 : 0 ≤ a) (h1 : a ≤ 999990) : ∃ r a', Ev (fun k => spec_l1Fill.f k c a z) (r, a', z) ∧ r.length = 64 ∧ (∀ y ∈ r, 0 ≤ y ∧ y ≤ 255) ∧ a ≤ a' ∧ a' ≤ a + 5 := by
  obtain ⟨v, hv, _, _⟩ := next_ev c a z 256 hc hb h0 (by omega) (by omega)
  obtain ⟨p, hp, p0, p1, _⟩ := next_ev c (a + 1) z 64 hc hb (by omega) (by omega) (by omega)
  obtain ⟨q, hq, _, _⟩ := next_ev c (a + 1 + 1) z 256 hc hb (by omega) (by omega) (by omega)
  obtain ⟨b, hch⟩ := chance_ev c (a + 1 + 1 + 1) z 5 hc hb (by omega) (by omega) (by omega)
  have hv2 : 0 ≤ v % 256 ∧ v % 256 ≤ 255 := by omega
  have hq2 : 0 ≤ q % 256 ∧ q % 256 ≤ 255 := by omega
  have fin : ∀ x : List Int, x.length = 64 → (∀ y ∈ x, 0 ≤ y ∧ y ≤ 255) → ∃ r a', Ev (fun k => spec_l1Fill.l0 k x (v % 256) ((64 : Nat) : Int) c (a + 1) z) (r, a', z) ∧ r.length = 64 ∧ (∀ y ∈ r, 0 ≤ y ∧ y ≤ 255) ∧ a ≤ a' ∧ a' ≤ a + 5 := by
    intro x hx hxb
    have hsb : ∀ y ∈ x.set p.toNat (q % 256), 0 ≤ y ∧ y ≤ 255 := fun y hy => by
      rcases List.mem_or_eq_of_mem_set hy with h | h
      · exact hxb y h
      · subst h; exact hq2
    cases b with
    | true =>
      obtain ⟨m, hm, ml, mb⟩ := magic_ev c (a + 1 + 1 + 1 + 1) z hc hb (by omega) (by omega)
      obtain ⟨r, hr, rl, rb⟩ := lay_ev c (a + 1 + 1 + 1 + 1 + 1) z m ml mb 4 0 (x.set p.toNat (q % 256)) (by omega) (by simpa using hx) hsb
      refine ⟨r, _, Ev.step (fun k => ?_) hr, rl, rb, by omega, by omega⟩
      simp only [spec_l1Fill.l0]
      rw [if_neg (by omega), hp, Option.bind_some, hq, Option.bind_some, if_pos p0, if_pos (by have := p1 (by omega); omega), Option.bind_some, hch, Option.bind_some, if_pos rfl, hm, Option.bind_some]; rfl
    | false =>
      refine ⟨x.set p.toNat (q % 256), a + 1 + 1 + 1 + 1, Ev.step (f := fun _ => some (x.set p.toNat (q % 256), a + 1 + 1 + 1 + 1, z)) (fun k => ?_) (Ev.now _), by simpa using hx, hsb, by omega, by omega⟩
      simp only [spec_l1Fill.l0]
      rw [if_neg (by omega), hp, Option.bind_some, hq, Option.bind_some, if_pos p0, if_pos (by have := p1 (by omega); omega), Option.bind_some, hch, Option.bind_some, if_neg (by simp)]
  have key : ∀ (d i : Nat) (x : List Int), i + d = 64 → x.length = i → (∀ y ∈ x, 0 ≤ y ∧ y ≤ 255) → ∃ r a', Ev (fun k => spec_l1Fill.l0 k x (v % 256) (i : Int) c (a + 1) z) (r, a', z) ∧ r.length = 64 ∧ (∀ y ∈ r, 0 ≤ y ∧ y ≤ 255) ∧ a ≤ a' ∧ a' ≤ a + 5 := by
    intro d
    induction d with
    | zero => intro i x hi hx hxb; obtain rfl : i = 64 := by omega
              exact fin x hx hxb
    | succ d ih =>
      intro i x hi hx hxb
      have hw : wrap64 ((i : Int) + 1) = ((i + 1 : Nat) : Int) := by rw [w64 (by omega) (by omega)]; rfl
      obtain ⟨r, a', h, h2⟩ := ih (i + 1) (x ++ [v % 256]) (by omega) (by simp [hx]) (fun y hy => by
        rcases List.mem_append.1 hy with h | h
        · exact hxb y h
        · rw [List.mem_singleton] at h; subst h; exact hv2)
      refine ⟨r, a', Ev.step (fun k => ?_) h, h2⟩
      simp only [spec_l1Fill.l0]
      have q0 : i < 64 := Nat.lt_of_lt_of_le (Nat.lt_add_of_pos_right (Nat.succ_pos d)) (Nat.le_of_eq hi)
      have q1 : (i : Int) < 64 := by exact_mod_cast q0
      have q2 : x.length < 140737488355328 := Nat.lt_of_lt_of_le (hx ▸ q0) (by decide)
      rw [if_pos q1, if_pos q2, hw]
  obtain ⟨r, a', h, h2⟩ := key 64 0 [] rfl rfl (by simp)
  exact ⟨r, a', Ev.congr (fun k => by unfold spec_l1Fill.f; rw [hv, Option.bind_some]; rfl) h, h2⟩
theorem draw_ev (c : List Int) (hc : c.length ≤ 1048576) (hb : ∀ x ∈ c, 0 ≤ x ∧ x ≤ 255) : ∃ r, Ev (fun k => spec_DrawEscape.f k c) r ∧ r.length ≤ 64 ∧ ∀ y ∈ r, 0 ≤ y ∧ y ≤ 255 := by
  obtain ⟨z, hz, _, _⟩ := source_ev c hc
  obtain ⟨r, a', hr, rl, rb, a0, a1⟩ := fill_some c 0 z hc hb (by omega) (by omega)
  obtain ⟨b, hch⟩ := chance_ev c a' z 9 hc hb (by omega) (by omega) (by omega)
  cases b with
  | true =>
    refine ⟨r.take 63, Ev.congr (fun k => by unfold spec_DrawEscape.f; rw [hz, Option.bind_some]) (hr.bind (Ev.congr (fun k => ?_) (Ev.now _))), by simp; omega, fun y hy => rb y (List.mem_of_mem_take hy)⟩
    rw [hch, Option.bind_some, if_pos rfl, if_pos (show (63 : Int) ≤ (r.length : Int) by omega)]; rfl
  | false =>
    refine ⟨r, Ev.congr (fun k => by unfold spec_DrawEscape.f; rw [hz, Option.bind_some]) (hr.bind (Ev.congr (fun k => ?_) (Ev.now _))), by omega, rb⟩
    rw [hch, Option.bind_some, if_neg (by simp)]
theorem u8_inj (x y : Int) (hx : 0 ≤ x ∧ x ≤ 255) (hy : 0 ≤ y ∧ y ≤ 255) : UInt8.ofNat x.toNat = UInt8.ofNat y.toNat ↔ x = y := by
  constructor
  · intro h
    have h2 := congrArg UInt8.toNat h
    simp only [UInt8.toNat_ofNat'] at h2
    omega
  · rintro rfl; rfl
theorem str_list (xs : List Int) : (strOfNums xs).toList = xs.map fun n => UInt8.ofNat n.toNat := Lib.strOfNums_toList xs
theorem cut4 (l : List Int) (hl : l.length = 64) : l.take 4 = [rd l 0, rd l 1, rd l 2, rd l 3] := by
  match l, hl with
  | a :: b :: c :: d :: r, _ => rfl
/-- A text of the first four bytes is a given one just where the bytes are. -/
theorem four (l : List Int) (hl : l.length = 64) (hb : ∀ y ∈ l, 0 ≤ y ∧ y ≤ 255) (a b c d : Int) (h0 : 0 ≤ a ∧ a ≤ 255) (h1 : 0 ≤ b ∧ b ≤ 255) (h2 : 0 ≤ c ∧ c ≤ 255) (h3 : 0 ≤ d ∧ d ≤ 255) (s : List UInt8) (hs : (strOfNums [a, b, c, d]).toList = s) : (strOfNums (l.take 4)).toList = s ↔ (rd l 0 = a ∧ rd l 1 = b ∧ rd l 2 = c ∧ rd l 3 = d) := by
  rw [← hs, str_list, str_list, cut4 l hl]
  have e0 := hb _ (rd_mem (l := l) (i := 0) (by omega) (by omega))
  have e1 := hb _ (rd_mem (l := l) (i := 1) (by omega) (by omega))
  have e2 := hb _ (rd_mem (l := l) (i := 2) (by omega) (by omega))
  have e3 := hb _ (rd_mem (l := l) (i := 3) (by omega) (by omega))
  simp only [List.map_cons, List.map_nil, List.cons.injEq, and_true]
  rw [u8_inj _ _ e0 h0, u8_inj _ _ e1 h1, u8_inj _ _ e2 h2, u8_inj _ _ e3 h3]
theorem splice_head (l x : List Int) : splice l 0 x = x ++ l.drop x.length := by
  simp [splice]
theorem take_back (l : List Int) (hl : l.length = 64) (h : rd l 0 = 106 ∧ rd l 1 = 108 ∧ rd l 2 = 111 ∧ rd l 3 = 103) : splice (splice l 0 [0, 0, 0, 0]) 0 [106, 108, 111, 103] = l := by
  match l, hl, h with
  | a :: b :: c :: d :: r, _, ⟨h1, h2, h3, h4⟩ =>
    have e1 : a = 106 := h1
    have e2 : b = 108 := h2
    have e3 : c = 111 := h3
    have e4 : d = 103 := h4
    subst e1; subst e2; subst e3; subst e4
    rfl
theorem zeros_take (l : List Int) (hl : l.length = 64) : (splice l 0 [0, 0, 0, 0]).take 4 = [0, 0, 0, 0] := by
  rw [splice_head]; rfl
theorem zeros_len (l : List Int) (hl : l.length = 64) : (splice l 0 [0, 0, 0, 0]).length = 64 := by
  rw [splice_head]; simp; omega
theorem j1_ev (r d : List Int) (bg es : Bool) (hr : r.length = 64) (hb : ∀ y ∈ r, 0 ≤ y ∧ y ≤ 255) (hd : d.length = 64) (hu : impl_Unescape.f d es = some r)
    (o : List Int) (ho : impl_Unescape.f r (!bg) = some o) (hz : (0 < o.length) ↔ (rd r 0 = 0 ∧ rd r 1 = 0 ∧ rd r 2 = 0 ∧ rd r 3 = 0)) : Ev (fun k => laws_FnEscape.j1 k r bg false true d es) true := by
  refine Ev.step (f := fun _ => some true) (fun k => ?_) (Ev.now _)
  simp only [laws_FnEscape.j1, Option.bind_some, List.nil_append, List.length_nil]
  have hsame : laws_lwSameBytes.f r r = some true := by unfold laws_lwSameBytes.f; simp
  rw [if_neg (by simp), if_pos (by omega), hu, Option.bind_some, if_pos (by omega)]
  by_cases c0 : rd r 0 = 0
  · rw [if_pos c0, if_pos (by omega)]
    by_cases c1 : rd r 1 = 0
    · rw [if_pos c1, if_pos (by omega)]
      by_cases c2 : rd r 2 = 0
      · rw [if_pos c2, if_pos (by omega), if_pos (by omega), ho, Option.bind_some, hsame, Option.bind_some, if_pos rfl]
        congr 1
        by_cases c3 : rd r 3 = 0
        · have := hz.2 ⟨c0, c1, c2, c3⟩
          rw [decide_eq_true (by omega), c3]; rfl
        · have hn : ¬ 0 < o.length := fun h => c3 (hz.1 h).2.2.2
          rw [decide_eq_false (by omega), beq_eq_false_iff_ne.mpr c3]; rfl
      · have hn : ¬ 0 < o.length := fun h => c2 (hz.1 h).2.2.1
        rw [if_neg c2, if_pos (by omega), ho, Option.bind_some, hsame, Option.bind_some, if_pos rfl, decide_eq_false (by omega)]; rfl
    · have hn : ¬ 0 < o.length := fun h => c1 (hz.1 h).2.1
      rw [if_neg c1, if_pos (by omega), ho, Option.bind_some, hsame, Option.bind_some, if_pos rfl, decide_eq_false (by omega)]; rfl
  · have hn : ¬ 0 < o.length := fun h => c0 (hz.1 h).1
    rw [if_neg c0, if_pos (by omega), ho, Option.bind_some, hsame, Option.bind_some, if_pos rfl, decide_eq_false (by omega)]; rfl
theorem kind0 (d : List Int) (h : ¬ (strOfNums (d.take 4)).toList = ([106, 108, 111, 103] : List UInt8)) : impl_BlockKind.f d = some 0 := by
  unfold impl_BlockKind.f
  by_cases c : (d.length : Int) = 64
  · rw [if_pos c, if_pos (by omega), if_neg h]
  · rw [if_neg c]
theorem j0_ev (r d : List Int) (bg : Bool) (hd : d.length = 64) (hk : ¬ (strOfNums (d.take 4)).toList = ([106, 108, 111, 103] : List UInt8)) (h : Ev (fun k => laws_FnEscape.j1 k r bg false true d bg) true) : Ev (fun k => laws_FnEscape.j0 k r bg true d bg) true := by
  refine Ev.step (fun k => ?_) h
  simp only [laws_FnEscape.j0]
  rw [if_pos trivial, if_pos (by omega), if_neg (by simp), kind0 d hk, Option.bind_some]; rfl
end FE
theorem FnEscape : laws_FnEscape.Pure := by
  intro l _ hl hw
  by_cases h : (l.length : Int) > 1048576
  · exact ⟨0, by unfold laws_FnEscape.f; rw [if_pos h]⟩
  obtain ⟨r, hr, rl, rb⟩ := FE.draw_ev l (by omega) (fun x hx => wfb (hw x hx))
  have ns : ¬ (strOfNums ([0, 0, 0, 0] : List Int)).toList = ([106, 108, 111, 103] : List UInt8) := by rw [FE.zero_str]; decide
  refine Ev.rounds (Ev.congr (fun k => by unfold laws_FnEscape.f; rw [if_neg h]) ?_)
  refine hr.bind ?_
  refine hr.bind ?_
  by_cases c64 : r.length = 64
  rotate_left
  · refine Ev.congr (fun k => ?_) (Ev.now true)
    unfold impl_Escape.f
    rw [if_neg (by omega), Option.bind_some, if_neg (by omega), if_neg (by simp)]; rfl
  have hM := FE.four r c64 rb 106 108 111 103 (by omega) (by omega) (by omega) (by omega) _ FE.magic_str
  have hZ := FE.four r c64 rb 0 0 0 0 (by omega) (by omega) (by omega) (by omega) _ FE.zero_str
  by_cases cm : (strOfNums (r.take 4)).toList = ([106, 108, 111, 103] : List UInt8)
  · obtain ⟨m0, m1, m2, m3⟩ := hM.1 cm
    have key : Ev (fun k => laws_FnEscape.j0 k r true true (splice r 0 [0, 0, 0, 0]) true) true := by
      refine FE.j0_ev r _ true (FE.zeros_len r c64) (by rw [FE.zeros_take r c64]; exact ns) ?_
      refine FE.j1_ev r _ true true c64 rb (FE.zeros_len r c64) ?_ [] ?_ (by simp; omega)
      · unfold impl_Unescape.f
        rw [if_pos (by rw [FE.zeros_len r c64]; rfl), if_pos rfl, if_pos (by rw [FE.zeros_take r c64]; exact FE.zero_str), FE.take_back r c64 ⟨m0, m1, m2, m3⟩]
      · unfold impl_Unescape.f
        rw [if_pos (by omega), if_neg (by simp), if_pos cm]
    refine Ev.congr (fun k => ?_) key
    unfold impl_Escape.f
    rw [if_pos (by omega), if_pos cm, Option.bind_some, if_pos (by omega), if_pos (by omega), if_pos m0, if_pos (by omega), if_pos m1, if_pos (by omega), if_pos m2, if_pos (by omega), m3]; rfl
  · have nb : ¬ (rd r 0 = 106 ∧ rd r 1 = 108 ∧ rd r 2 = 111 ∧ rd r 3 = 103) := fun h => cm (hM.2 h)
    have key : Ev (fun k => laws_FnEscape.j0 k r false true r false) true := by
      refine FE.j0_ev r _ false c64 cm ?_
      by_cases cz : (strOfNums (r.take 4)).toList = ([0, 0, 0, 0] : List UInt8)
      · refine FE.j1_ev r _ false false c64 rb c64 ?_ (splice r 0 [106, 108, 111, 103]) ?_ ⟨fun _ => hZ.1 cz, fun _ => by rw [FE.splice_head]; simp⟩
        · unfold impl_Unescape.f
          rw [if_pos (by omega), if_neg (by simp), if_neg cm]
        · unfold impl_Unescape.f
          rw [if_pos (by omega), if_pos (show (!false) = true by rfl), if_pos cz]
      · refine FE.j1_ev r _ false false c64 rb c64 ?_ [] ?_ ⟨fun h => by simp at h, fun h => absurd (hZ.2 h) cz⟩
        · unfold impl_Unescape.f
          rw [if_pos (by omega), if_neg (by simp), if_neg cm]
        · unfold impl_Unescape.f
          rw [if_pos (by omega), if_pos (show (!false) = true by rfl), if_neg cz]
    refine Ev.congr (fun k => ?_) key
    unfold impl_Escape.f
    rw [if_pos (by omega), if_neg cm, Option.bind_some, if_pos (by omega), if_pos (by omega)]
    by_cases q0 : rd r 0 = 106
    · rw [if_pos q0, if_pos (by omega)]
      by_cases q1 : rd r 1 = 108
      · rw [if_pos q1, if_pos (by omega)]
        by_cases q2 : rd r 2 = 111
        · rw [if_pos q2, if_pos (by omega), beq_eq_false_iff_ne.mpr (fun q3 => nb ⟨q0, q1, q2, q3⟩)]
        · rw [if_neg q2]
      · rw [if_neg q1]
    · rw [if_neg q0]
end Go.Proofs.Ytmaeofmmainmlaa.Pure
