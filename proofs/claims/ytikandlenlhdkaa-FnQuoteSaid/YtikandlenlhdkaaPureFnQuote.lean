/- FnQuote: drawn data come back from their quoting, in which all bytes are printable; a drawn text that is unquoted is quoted as it stood. -/
import Derived.Test.YtikandlenlhdkaaPFnQuotex4
import Derived.Test.YtikandlenlhdkaaHlp
namespace Go.Proofs.Ytikandlenlhdkaa.Pure
open Go.RowKit Go.Proofs.Ytikandlenlhdkaa.PFnQuote Go.Proofs.YtikandlenlhdkaaW.PrintWords Go.Proofs.YtikandlenlhdkaaW.PrintLast Go.Proofs.YtikandlenlhdkaaW.PrintMore Go.Proofs.Ytikandlenlhdkaa.Hlp Go.Proofs.Ytikandlenlhdkaa.Qt
set_option linter.unusedVariables false
/-- The state of a reader: the bytes, how many draws there were. -/
def okS (c : List Int) (a : Int) : Prop := c.length ≤ 1048576 ∧ (∀ x ∈ c, 0 ≤ x ∧ x ≤ 255) ∧ 0 ≤ a
theorem next_ev (c : List Int) (a z n : Int) (hc : c.length ≤ 1048576) (hb : ∀ x ∈ c, 0 ≤ x ∧ x ≤ 255) (h0 : 0 ≤ a) (h1 : a ≤ 1000000) (hn : n ≤ 1000000) : ∃ v, spec_l1Next.f c a z n = some (v, a + 1, z) ∧ 0 ≤ v ∧ (0 < n → v < n) ∧ (n < 1 → v = 0) := by
  unfold spec_l1Next.f
  have w1 : wrap64 (a + 1) = a + 1 := w64 (by omega) (by omega)
  have w2 : wrap64 (a + 1 - 1) = a := by rw [w64 (by omega) (by omega)]; omega
  rw [w1, w2, w1]
  by_cases c1 : n < 1
  · exact ⟨0, by rw [if_pos c1], by omega, fun h => by omega, fun _ => rfl⟩
  rw [if_neg c1]
  have modk : ∀ x : Int, 0 ≤ x → 0 ≤ Int.tmod x n ∧ (0 < n → Int.tmod x n < n) := fun x hx => by
    rw [Int.tmod_eq_emod_of_nonneg hx]
    exact ⟨Int.emod_nonneg _ (by omega), fun h => Int.emod_lt_of_pos _ h⟩
  by_cases c2 : (c.length : Int) = 0
  · have := modk (wrap64 (a * 7)) (by rw [w64 (by omega) (by omega)]; omega)
    exact ⟨_, by rw [if_pos c2, if_neg (by omega)], this.1, this.2, fun h => by omega⟩
  rw [if_neg c2]
  have hk : 0 < (c.length : Int) := by omega
  have m1 : 0 ≤ Int.tmod a (c.length : Int) ∧ Int.tmod a (c.length : Int) < (c.length : Int) := by
    rw [Int.tmod_eq_emod_of_nonneg h0]
    exact ⟨Int.emod_nonneg _ (by omega), Int.emod_lt_of_pos _ hk⟩
  have w3 : wrap64 (a + 1) = a + 1 := w1
  have m2 : 0 ≤ Int.tmod (a + 1) (c.length : Int) ∧ Int.tmod (a + 1) (c.length : Int) < (c.length : Int) := by
    rw [Int.tmod_eq_emod_of_nonneg (by omega)]
    exact ⟨Int.emod_nonneg _ (by omega), Int.emod_lt_of_pos _ hk⟩
  have r1 := hb _ (rd_mem m1.1 m1.2)
  have r2 := hb _ (rd_mem m2.1 m2.2)
  have d1 : 0 ≤ Int.tdiv a (c.length : Int) ∧ Int.tdiv a (c.length : Int) ≤ a := by
    rw [Int.tdiv_eq_ediv_of_nonneg h0]
    refine ⟨Int.ediv_nonneg h0 (by omega), Int.ediv_le_self _ h0⟩
  obtain ⟨y1, hy1⟩ : ∃ y, rd c (Int.tmod a (c.length : Int)) = y := ⟨_, rfl⟩
  obtain ⟨y2, hy2⟩ : ∃ y, rd c (Int.tmod (a + 1) (c.length : Int)) = y := ⟨_, rfl⟩
  obtain ⟨q, hq⟩ : ∃ y, Int.tdiv a (c.length : Int) = y := ⟨_, rfl⟩
  rw [hy1] at r1
  rw [hy2] at r2
  rw [hq] at d1
  rw [if_pos m1.1, if_pos m1.2, hy1, hq, hy2]
  have w4 : wrap64 y1 = y1 := w64 (by omega) (by omega)
  have w5 : wrap64 q = q := w64 (by omega) (by omega)
  have w6 : wrap64 (q * 37) = q * 37 := w64 (by omega) (by omega)
  have w7 : wrap64 (y1 + q * 37) = y1 + q * 37 := w64 (by omega) (by omega)
  rw [w4, w5, w6, w7]
  by_cases c3 : n > 200
  · have w8 : wrap64 ((y1 + q * 37) * 251) = (y1 + q * 37) * 251 := w64 (by omega) (by omega)
    have w9 : wrap64 (wrap64 y2 * 13) = y2 * 13 := by rw [w64 (x := y2) (by omega) (by omega), w64 (by omega) (by omega)]
    have wa : wrap64 ((y1 + q * 37) * 251 + y2 * 13) = (y1 + q * 37) * 251 + y2 * 13 := w64 (by omega) (by omega)
    have wb : wrap64 ((y1 + q * 37) * 251 + y2 * 13 + a) = (y1 + q * 37) * 251 + y2 * 13 + a := w64 (by omega) (by omega)
    rw [if_pos c3, if_pos m2.1, if_pos m2.2, if_neg (by omega), w8, w9, wa, wb]
    have := modk ((y1 + q * 37) * 251 + y2 * 13 + a) (by omega)
    exact ⟨_, rfl, this.1, this.2, fun h => by omega⟩
  · rw [if_neg c3, if_neg (by omega)]
    have := modk (y1 + q * 37) (by omega)
    exact ⟨_, rfl, this.1, this.2, fun h => by omega⟩
theorem chance_ev (c : List Int) (a z n : Int) (hc : c.length ≤ 1048576) (hb : ∀ x ∈ c, 0 ≤ x ∧ x ≤ 255) (h0 : 0 ≤ a) (h1 : a ≤ 1000000) (hn : n ≤ 1000000) : ∃ b, spec_l1Chance.f c a z n = some (b, a + 1, z) := by
  obtain ⟨v, h, _⟩ := next_ev c a z n hc hb h0 h1 hn
  exact ⟨_, by unfold spec_l1Chance.f; rw [h, Option.bind_some]⟩
theorem source_ev (c : List Int) (hc : c.length ≤ 1048576) : ∃ z, spec_l1Source.f c = some (c, 0, z) ∧ 0 ≤ z ∧ z ≤ 12 := by
  unfold spec_l1Source.f
  by_cases h : (wrap64 ((c.length : Int) / 16)) > 12
  · exact ⟨12, by rw [if_pos h], by omega, by omega⟩
  · rw [w64 (by omega) (by omega)] at h
    exact ⟨(c.length : Int) / 16, by rw [w64 (by omega) (by omega), if_neg h], by omega, by omega⟩
theorem magic_ev (c : List Int) (a z : Int) (hc : c.length ≤ 1048576) (hb : ∀ x ∈ c, 0 ≤ x ∧ x ≤ 255) (h0 : 0 ≤ a) (h1 : a ≤ 1000000) : ∃ m, spec_l1Magic.f c a z = some (m, a + 1, z) ∧ m.length = 4 ∧ ∀ x ∈ m, 0 ≤ x ∧ x ≤ 255 := by
  obtain ⟨b, h⟩ := chance_ev c a z 6 hc hb h0 h1 (by omega)
  unfold spec_l1Magic.f
  cases b with
  | true => exact ⟨[106, 108, 111, 104], by rw [h, Option.bind_some, if_pos rfl], rfl, by decide⟩
  | false => exact ⟨[106, 108, 111, 103], by rw [h, Option.bind_some, if_neg (by simp)], rfl, by decide⟩
theorem lay_ev (c : List Int) (a z : Int) (m : List Int) (hm : m.length = 4) (hmb : ∀ x ∈ m, 0 ≤ x ∧ x ≤ 255) (d : Nat) : ∀ (i : Nat) (x : List Int), i + d = 4 → x.length = 64 → (∀ y ∈ x, 0 ≤ y ∧ y ≤ 255) → ∃ r, Ev (fun k => spec_l1Fill.l1 k x m (i : Int) c a z) (r, a, z) ∧ r.length = 64 ∧ ∀ y ∈ r, 0 ≤ y ∧ y ≤ 255 := by
  induction d with
  | zero => intro i x hi hx hb; exact ⟨x, Ev.step (f := fun _ => some (x, a, z)) (fun k => by simp only [spec_l1Fill.l1]; rw [if_neg (by omega)]) (Ev.now _), hx, hb⟩
  | succ d ih =>
    intro i x hi hx hb
    have hw : wrap64 ((i : Int) + 1) = ((i + 1 : Nat) : Int) := by rw [w64 (by omega) (by omega)]; rfl
    have hr := hmb _ (rd_mem (l := m) (i := (i : Int)) (by omega) (by omega))
    obtain ⟨r, h1, h2, h3⟩ := ih (i + 1) (x.set i (rd m (i : Int))) (by omega) (by simpa using hx) (fun y hy => by
      rcases List.mem_or_eq_of_mem_set hy with h | h
      · exact hb y h
      · subst h; exact hr)
    refine ⟨r, Ev.step (fun k => ?_) h1, h2, h3⟩
    simp only [spec_l1Fill.l1]
    rw [if_pos (by omega), if_pos (by omega), if_pos (by omega), hw, Int.toNat_natCast]
theorem fill_some (c : List Int) (a z : Int) (hc : c.length ≤ 1048576) (hb : ∀ x ∈ c, 0 ≤ x ∧ x ≤ 255) (h0 : 0 ≤ a) (h1 : a ≤ 999990) : ∃ r a', Ev (fun k => spec_l1Fill.f k c a z) (r, a', z) ∧ r.length = 64 ∧ (∀ y ∈ r, 0 ≤ y ∧ y ≤ 255) ∧ a ≤ a' ∧ a' ≤ a + 5 := by
  obtain ⟨v, hv, _, _⟩ := next_ev c a z 256 hc hb h0 (by omega) (by omega)
  obtain ⟨p, hp, p0, p1, _⟩ := next_ev c (a + 1) z 64 hc hb (by omega) (by omega) (by omega)
  obtain ⟨q, hq, _, _⟩ := next_ev c (a + 1 + 1) z 256 hc hb (by omega) (by omega) (by omega)
  obtain ⟨b, hch⟩ := chance_ev c (a + 1 + 1 + 1) z 5 hc hb (by omega) (by omega) (by omega)
  have hv2 : 0 ≤ v % 256 ∧ v % 256 ≤ 255 := by omega
  have hq2 : 0 ≤ q % 256 ∧ q % 256 ≤ 255 := by omega
  have fin : ∀ x : List Int, x.length = 64 → (∀ y ∈ x, 0 ≤ y ∧ y ≤ 255) → ∃ r a', Ev (fun k => spec_l1Fill.l0 k x (v % 256) ((64 : Nat) : Int) c (a + 1) z) (r, a', z) ∧ r.length = 64 ∧ (∀ y ∈ r, 0 ≤ y ∧ y ≤ 255) ∧ a ≤ a' ∧ a' ≤ a + 5 := by
    intro x hx hxb
    have hsb : ∀ y ∈ x.set p.toNat (q % 256), 0 ≤ y ∧ y ≤ 255 := fun y hy => by
      rcases List.mem_or_eq_of_mem_set hy with h | h
      · exact hxb y h
      · subst h; exact hq2
    cases b with
    | true =>
      obtain ⟨m, hm, ml, mb⟩ := magic_ev c (a + 1 + 1 + 1 + 1) z hc hb (by omega) (by omega)
      obtain ⟨r, hr, rl, rb⟩ := lay_ev c (a + 1 + 1 + 1 + 1 + 1) z m ml mb 4 0 (x.set p.toNat (q % 256)) (by omega) (by simpa using hx) hsb
      refine ⟨r, _, Ev.step (fun k => ?_) hr, rl, rb, by omega, by omega⟩
      simp only [spec_l1Fill.l0]
      rw [if_neg (by omega), hp, Option.bind_some, hq, Option.bind_some, if_pos p0, if_pos (by have := p1 (by omega); omega), Option.bind_some, hch, Option.bind_some, if_pos rfl, hm, Option.bind_some]; rfl
    | false =>
      refine ⟨x.set p.toNat (q % 256), a + 1 + 1 + 1 + 1, Ev.step (f := fun _ => some (x.set p.toNat (q % 256), a + 1 + 1 + 1 + 1, z)) (fun k => ?_) (Ev.now _), by simpa using hx, hsb, by omega, by omega⟩
      simp only [spec_l1Fill.l0]
      rw [if_neg (by omega), hp, Option.bind_some, hq, Option.bind_some, if_pos p0, if_pos (by have := p1 (by omega); omega), Option.bind_some, hch, Option.bind_some, if_neg (by simp)]
  have key : ∀ (d i : Nat) (x : List Int), i + d = 64 → x.length = i → (∀ y ∈ x, 0 ≤ y ∧ y ≤ 255) → ∃ r a', Ev (fun k => spec_l1Fill.l0 k x (v % 256) (i : Int) c (a + 1) z) (r, a', z) ∧ r.length = 64 ∧ (∀ y ∈ r, 0 ≤ y ∧ y ≤ 255) ∧ a ≤ a' ∧ a' ≤ a + 5 := by
    intro d
    induction d with
    | zero => intro i x hi hx hxb; obtain rfl : i = 64 := by omega
              exact fin x hx hxb
    | succ d ih =>
      intro i x hi hx hxb
      have hw : wrap64 ((i : Int) + 1) = ((i + 1 : Nat) : Int) := by rw [w64 (by omega) (by omega)]; rfl
      obtain ⟨r, a', h, h2⟩ := ih (i + 1) (x ++ [v % 256]) (by omega) (by simp [hx]) (fun y hy => by
        rcases List.mem_append.1 hy with h | h
        · exact hxb y h
        · rw [List.mem_singleton] at h; subst h; exact hv2)
      refine ⟨r, a', Ev.step (fun k => ?_) h, h2⟩
      simp only [spec_l1Fill.l0]
      have q0 : i < 64 := Nat.lt_of_lt_of_le (Nat.lt_add_of_pos_right (Nat.succ_pos d)) (Nat.le_of_eq hi)
      have q1 : (i : Int) < 64 := by exact_mod_cast q0
      have q2 : x.length < 140737488355328 := Nat.lt_of_lt_of_le (hx ▸ q0) (by decide)
      rw [if_pos q1, if_pos q2, hw]
  obtain ⟨r, a', h, h2⟩ := key 64 0 [] rfl rfl (by simp)
  exact ⟨r, a', Ev.congr (fun k => by unfold spec_l1Fill.f; rw [hv, Option.bind_some]; rfl) h, h2⟩
/-- The value of a digit; -1: it is none. -/
def hexL : List UInt8 := [48, 49, 50, 51, 52, 53, 54, 55, 56, 57, 97, 98, 99, 100, 101, 102]
def hd (b : UInt8) : Int := Lib.indexByte hexL b
def hv (a b : UInt8) : UInt8 := UInt8.ofNat ((hd a * 16 + hd b).toNat)
/-- The bytes that a text says in the one form; none: it is not in it. -/
def ud : List UInt8 → Option (List UInt8)
  | [] => some []
  | c :: r => if qp c = true then (ud r).map (c :: ·) else if c = 37 then
      (match r with
      | a :: b :: r' => if hd a < 0 ∨ hd b < 0 ∨ qp (hv a b) = true then none else (ud r').map (hv a b :: ·)
      | _ => none) else none
/-- The bytes that a text says, in whatever form. -/
def li : List UInt8 → Option (List UInt8)
  | [] => some []
  | c :: r => if c = 37 then
      (match r with
      | a :: b :: r' => if hd a < 0 ∨ hd b < 0 then none else (li r').map (hv a b :: ·)
      | _ => none) else (li r).map (c :: ·)
def udT (r : List UInt8) : Option (List UInt8) := match r with | a :: b :: r' => if hd a < 0 ∨ hd b < 0 ∨ qp (hv a b) = true then none else (ud r').map (hv a b :: ·) | _ => none
def liT (r : List UInt8) : Option (List UInt8) := match r with | a :: b :: r' => if hd a < 0 ∨ hd b < 0 then none else (li r').map (hv a b :: ·) | _ => none
theorem ud_cons (c : UInt8) (r : List UInt8) : ud (c :: r) = if qp c = true then (ud r).map (c :: ·) else if c = 37 then udT r else none := by
  match r with
  | [] => simp [ud, udT]
  | [a] => simp [ud, udT]
  | a :: b :: r' => rw [ud]; rfl
theorem li_cons (c : UInt8) (r : List UInt8) : li (c :: r) = if c = 37 then liT r else (li r).map (c :: ·) := by
  match r with
  | [] => simp [li, liT]
  | [a] => simp [li, liT]
  | a :: b :: r' => rw [li]; rfl
theorem hd_facts : ∀ b : UInt8, hd b = -1 ∨ (0 ≤ hd b ∧ hd b < 16 ∧ hx (hd b).toNat = b) := by
  have : ∀ n : Fin 256, hd (UInt8.ofNat n.1) = -1 ∨ (0 ≤ hd (UInt8.ofNat n.1) ∧ hd (UInt8.ofNat n.1) < 16 ∧ hx (hd (UInt8.ofNat n.1)).toNat = UInt8.ofNat n.1) := by decide +kernel
  intro b
  have h := this ⟨b.toNat, UInt8.toNat_lt b⟩
  rwa [show UInt8.ofNat b.toNat = b from UInt8.ofNat_toNat] at h
theorem hd_hx : ∀ n : Nat, n < 16 → hd (hx n) = (n : Int) := by decide +kernel
theorem qp37 : ¬ qp 37 = true := by decide
theorem qp_ne (c : UInt8) (h : qp c = true) : c ≠ 37 := fun e => qp37 (e ▸ h)
theorem hv_hx (c : UInt8) : hv (hx (c.toNat / 16)) (hx (c.toNat % 16)) = c := by
  have hc : c.toNat < 256 := UInt8.toNat_lt c
  unfold hv
  rw [hd_hx _ (by omega), hd_hx _ (by omega), show (((c.toNat / 16 : Nat) : Int) * 16 + ((c.toNat % 16 : Nat) : Int)).toNat = c.toNat by omega]
  exact UInt8.ofNat_toNat
theorem ud_ql : ∀ d : List UInt8, ud (ql d) = some d
  | [] => rfl
  | c :: d => by
    have ih := ud_ql d
    have hc : c.toNat < 256 := UInt8.toNat_lt c
    have e : ql (c :: d) = qb c ++ ql d := rfl
    rw [e]
    unfold qb
    by_cases h : qp c = true
    · rw [if_pos h]
      show ud (c :: ql d) = _
      rw [ud_cons, if_pos h, ih]; rfl
    · rw [if_neg h]
      show ud (37 :: hx (c.toNat / 16) :: hx (c.toNat % 16) :: ql d) = _
      rw [ud_cons, if_neg qp37, if_pos rfl]
      simp only [udT, hv_hx, ih, hd_hx _ (show c.toNat / 16 < 16 by omega), hd_hx _ (show c.toNat % 16 < 16 by omega)]
      rw [if_neg (by intro h1; rcases h1 with h1 | h1 | h1 <;> first | omega | exact h h1)]; rfl
theorem ql_ud : ∀ (m : Nat) (T d : List UInt8), T.length ≤ m → ud T = some d → ql d = T ∧ li T = some d := by
  intro m
  induction m with
  | zero =>
    intro T d hm h
    obtain rfl : T = [] := List.eq_nil_of_length_eq_zero (by omega)
    rw [ud] at h; cases h; exact ⟨rfl, rfl⟩
  | succ m ih =>
    intro T d hm h
    cases T with
    | nil => rw [ud] at h; cases h; exact ⟨rfl, rfl⟩
    | cons c r =>
      rw [ud_cons] at h
      by_cases h1 : qp c = true
      · rw [if_pos h1] at h
        obtain ⟨d', h2, rfl⟩ := Option.map_eq_some_iff.1 h
        obtain ⟨e1, e2⟩ := ih r d' (by simpa using hm) h2
        refine ⟨?_, ?_⟩
        · show qb c ++ ql d' = _
          unfold qb; rw [if_pos h1, e1]; rfl
        · rw [li_cons, if_neg (qp_ne c h1), e2]; rfl
      · rw [if_neg h1] at h
        by_cases h2 : c = 37
        rotate_left
        · rw [if_neg h2] at h; cases h
        subst h2
        rw [if_pos rfl] at h
        match r, h with
        | [], h => cases h
        | [_], h => cases h
        | a :: b :: r', h =>
          simp only [udT] at h
          by_cases h3 : hd a < 0 ∨ hd b < 0 ∨ qp (hv a b) = true
          · rw [if_pos h3] at h; cases h
          rw [if_neg h3] at h
          obtain ⟨d', h4, rfl⟩ := Option.map_eq_some_iff.1 h
          obtain ⟨e1, e2⟩ := ih r' d' (by simp at hm; omega) h4
          have ha := (hd_facts a).resolve_left (fun e => h3 (.inl (by omega)))
          have hb := (hd_facts b).resolve_left (fun e => h3 (.inr (.inl (by omega))))
          have hvn : (hv a b).toNat = (hd a * 16 + hd b).toNat := by
            unfold hv
            rw [UInt8.toNat_ofNat']; omega
          refine ⟨?_, ?_⟩
          · show qb (hv a b) ++ ql d' = _
            unfold qb
            rw [if_neg (fun h => h3 (.inr (.inr h))), hvn, e1, show (hd a * 16 + hd b).toNat / 16 = (hd a).toNat by omega, show (hd a * 16 + hd b).toNat % 16 = (hd b).toNat by omega, ha.2.2, hb.2.2]; rfl
          · rw [li_cons, if_pos rfl]
            simp only [liT]
            rw [if_neg (fun h => h3 (h.elim .inl (fun h => .inr (.inl h)))), e2]; rfl
/-- A loose reading whose quoting is the text is the one reading. -/
theorem ud_of (T d : List UInt8) (h : ql d = T) : ud T = some d := by rw [← h]; exact ud_ql d
theorem drop_at (s : ByteArray) (i : Nat) (h : i < s.size) : s.data.toList.drop i = s[i] :: s.data.toList.drop (i + 1) := by
  rw [List.drop_eq_getElem_cons (by simpa using h)]; rfl
theorem bt_i (s : ByteArray) (i : Nat) (h : i < s.size) : bt s (i : Int) = (s[i].toNat : Int) := (bt_at s (i : Int) (by simpa using h)).symm
theorem plainT (c : UInt8) : spec_l14Plain.f (c.toNat : Int) = some (qp c) := by
  unfold qp spec_l14Plain.f
  by_cases h1 : 33 ≤ c.toNat
  · rw [if_pos (by omega), decide_eq_true h1]
    by_cases h2 : c.toNat ≤ 126
    · rw [if_pos (by omega), decide_eq_true h2]
      by_cases h3 : c.toNat = 37
      · rw [h3]; rfl
      · rw [decide_eq_true h3, bne_iff_ne.mpr (by omega : (c.toNat : Int) ≠ 37)]; rfl
    · rw [if_neg (by omega), decide_eq_false h2]; rfl
  · rw [if_neg (by omega), decide_eq_false h1]; rfl
theorem index_is (b : UInt8) : strings_IndexByte.f (⟨#[48, 49, 50, 51, 52, 53, 54, 55, 56, 57, 97, 98, 99, 100, 101, 102]⟩ : ByteArray) (b.toNat : Int) = some (hd b) := by
  unfold strings_IndexByte.f hd
  rw [Int.toNat_natCast, show b.toNat.toUInt8 = b from UInt8.ofNat_toNat]; rfl
def no : Bool × ByteArray := (false, ⟨#[]⟩)
def fin (x : List Int) (y : Bool × ByteArray) : Bool × ByteArray := if (x.length : Int) = 0 then no else if (x.length : Int) > 65536 then no else y
/-- What the bytes so far and those that the rest says come to. -/
def so (F : List Int → Bool × ByteArray) (acc : List Int) : Option (List UInt8) → Bool × ByteArray
  | none => no
  | some d => F (acc ++ d.map fun c => (c.toNat : Int))
theorem so_cons (F : List Int → Bool × ByteArray) (acc : List Int) (c : UInt8) (o : Option (List UInt8)) : so F (acc ++ [(c.toNat : Int)]) o = so F acc (o.map (c :: ·)) := by
  cases o with
  | none => rfl
  | some d => simp [so]
theorem hv_int (a b : UInt8) (ha : ¬ hd a < 0) (hb : ¬ hd b < 0) : (wrap64 ((wrap64 (hd a * 16)) + hd b)) % 256 = ((hv a b).toNat : Int) ∧ (Go.bits .or .i64 (wrap64 (hd a * 16)) (hd b)) % 256 = ((hv a b).toNat : Int) := by
  have h1 := (hd_facts a).resolve_left (by omega)
  have h2 := (hd_facts b).resolve_left (by omega)
  have hvn : (hv a b).toNat = (hd a * 16 + hd b).toNat := by
    unfold hv
    rw [UInt8.toNat_ofNat']; omega
  rw [hvn]
  generalize hd a = x at *
  generalize hd b = y at *
  obtain ⟨n, rfl⟩ := Int.eq_ofNat_of_zero_le h1.1
  obtain ⟨m, rfl⟩ := Int.eq_ofNat_of_zero_le h2.1
  have key : ∀ n : Fin 16, ∀ m : Fin 16, (wrap64 ((wrap64 (((n.1 : Nat) : Int) * 16)) + ((m.1 : Nat) : Int))) % 256 = (((((n.1 : Nat) : Int) * 16 + ((m.1 : Nat) : Int)).toNat : Nat) : Int) ∧ (Go.bits .or .i64 (wrap64 (((n.1 : Nat) : Int) * 16)) ((m.1 : Nat) : Int)) % 256 = (((((n.1 : Nat) : Int) * 16 + ((m.1 : Nat) : Int)).toNat : Nat) : Int) := by decide +kernel
  exact key ⟨n, by omega⟩ ⟨m, by omega⟩
def specF (x : List Int) : Bool × ByteArray := fin x (true, strOfNums x)
def implF (s : ByteArray) (x : List Int) : Bool × ByteArray := fin x (if ql (x.map fun n => UInt8.ofNat n.toNat) = s.data.toList then (true, strOfNums x) else no)
theorem impl_end (s : ByteArray) (acc : List Int) : (if (acc.length : Int) = 0 then (some (false, (⟨#[]⟩ : ByteArray))) else (if (acc.length : Int) > 65536 then (some (false, (⟨#[]⟩ : ByteArray))) else ((impl_Quote.f (strOfNums acc)).bind fun t117 => (if t117.toList = s.toList then (some (true, strOfNums acc)) else (some (false, (⟨#[]⟩ : ByteArray))))))) = some (implF s acc) := by
  unfold implF fin no
  by_cases h1 : (acc.length : Int) = 0
  · rw [if_pos h1, if_pos h1]
  rw [if_neg h1, if_neg h1]
  by_cases h2 : (acc.length : Int) > 65536
  · rw [if_pos h2, if_pos h2]
  rw [if_neg h2, if_neg h2]
  unfold impl_Quote.f qF
  rw [strOfNums_size, if_neg (by omega), if_neg (by omega), Option.bind_some, strOfNums_data, ByteArray.toList_eq s, ByteArray.toList_eq]
  split <;> rfl
theorem impl_loop (s : ByteArray) (hn : s.size ≤ 1048576) : ∀ (m i : Nat) (acc : List Int), s.size - i ≤ m → i ≤ s.size → acc.length ≤ i → Ev (fun k => impl_Unquote.l0 k s acc (i : Int)) (so (implF s) acc (li (s.data.toList.drop i))) := by
  intro m
  induction m with
  | zero =>
    intro i acc hm hi ha
    have e : s.data.toList.drop i = [] := List.drop_eq_nil_of_le (by rw [data_length]; omega)
    rw [e, li]
    refine Ev.step (f := fun _ => some (implF s (acc ++ []))) (fun k => ?_) (Ev.now _)
    simp only [impl_Unquote.l0]
    rw [if_neg (by omega), List.append_nil, impl_end]
  | succ m ih =>
    intro i acc hm hi ha
    by_cases h : i < s.size
    rotate_left
    · exact ih i acc (by omega) hi ha
    have e3 : wrap64 ((i : Int) + 1) = ((i + 1 : Nat) : Int) := by rw [w64 (by omega) (by omega)]; rfl
    have e4 : wrap64 ((i : Int) + 2) = ((i + 2 : Nat) : Int) := by rw [w64 (by omega) (by omega)]; rfl
    have e5 : wrap64 (((i + 2 : Nat) : Int) + 1) = ((i + 3 : Nat) : Int) := by rw [w64 (by omega) (by omega)]; rfl
    rw [drop_at s i h, li_cons]
    by_cases h2 : s[i] = 37
    rotate_left
    · rw [if_neg h2, ← so_cons]
      have hne : ¬ (s[i].toNat : Int) = 37 := fun e => h2 (UInt8.toNat_inj.1 (show s[i].toNat = (37 : UInt8).toNat from (Int.ofNat_inj.1 e : s[i].toNat = 37)))
      refine Ev.step (f := fun k => impl_Unquote.l0 k s (acc ++ [(s[i].toNat : Int)]) ((i + 1 : Nat) : Int)) (fun k => ?_) (ih (i + 1) (acc ++ [(s[i].toNat : Int)]) (by omega) (by omega) (by rw [List.length_append, List.length_singleton]; omega))
      simp only [impl_Unquote.l0]
      rw [if_pos (by omega), if_pos (by omega), bt_i s i h, if_neg hne, if_pos (by omega), e3]
    · rw [if_pos h2]
      have heq : (s[i].toNat : Int) = 37 := by rw [h2]; rfl
      by_cases h3 : i + 2 < s.size
      rotate_left
      · have e7 : liT (s.data.toList.drop (i + 1)) = none := by
          by_cases h4 : i + 1 < s.size
          · rw [drop_at s (i + 1) h4, show s.data.toList.drop (i + 1 + 1) = [] from List.drop_eq_nil_of_le (by rw [data_length]; omega)]; rfl
          · rw [show s.data.toList.drop (i + 1) = [] from List.drop_eq_nil_of_le (by rw [data_length]; omega)]; rfl
        rw [e7]
        refine Ev.step (f := fun _ => some no) (fun k => ?_) (Ev.now _)
        simp only [impl_Unquote.l0]
        rw [if_pos (by omega), if_pos (by omega), bt_i s i h, if_pos heq, if_pos (by rw [e4]; omega)]; rfl
      · rw [drop_at s (i + 1) (by omega), drop_at s (i + 1 + 1) (by omega)]
        simp only [liT]
        have st : ∀ k, impl_Unquote.l0 (k + 1) s acc (i : Int) = if hd s[i + 1] < 0 then some no else if hd s[i + 1 + 1] < 0 then some no else impl_Unquote.l0 k s (acc ++ [(Go.bits .or .i64 (wrap64 (hd s[i + 1] * 16)) (hd s[i + 1 + 1])) % 256]) ((i + 3 : Nat) : Int) := fun k => by
          simp only [impl_Unquote.l0]
          rw [if_pos (by omega), if_pos (by omega), bt_i s i h, if_pos heq, if_neg (by rw [e4]; omega), e3, e4, if_pos (by omega), if_pos (by omega), bt_i s (i + 1) (by omega), bt_i s (i + 2) (by omega), index_is, Option.bind_some, if_pos (by omega), if_pos (by omega), index_is, Option.bind_some, e5, if_pos (show acc.length < 140737488355328 by omega)]
          rfl
        by_cases h4 : hd s[i + 1] < 0
        · rw [if_pos (.inl h4)]; exact Ev.step (f := fun _ => some no) (fun k => by rw [st, if_pos h4]) (Ev.now _)
        by_cases h5 : hd s[i + 1 + 1] < 0
        · rw [if_pos (.inr h5)]; exact Ev.step (f := fun _ => some no) (fun k => by rw [st, if_neg h4, if_pos h5]) (Ev.now _)
        rw [(hv_int _ _ h4 h5).2] at st
        rw [if_neg (fun h => h.elim h4 h5), ← so_cons]
        exact Ev.step (fun k => by rw [st, if_neg h4, if_neg h5]) (ih (i + 3) (acc ++ [((hv s[i + 1] s[i + 1 + 1]).toNat : Int)]) (by omega) (by omega) (by rw [List.length_append, List.length_singleton]; omega))
theorem nums_back (d : List UInt8) : (d.map fun c => (c.toNat : Int)).map (fun n => UInt8.ofNat n.toNat) = d := by
  induction d with
  | nil => rfl
  | cons c r ih => simp only [List.map_cons, ih, Int.toNat_natCast]; congr 1; exact UInt8.ofNat_toNat
/-- What both answer. -/
def uq (s : ByteArray) : Bool × ByteArray := if s.toList = ([37] : List UInt8) then (true, ⟨#[]⟩) else so specF [] (ud s.data.toList)
theorem impl_uq (s : ByteArray) (hn : s.size ≤ 1048576) : Ev (fun k => impl_Unquote.f k s) (uq s) := by
  unfold uq
  by_cases h : s.toList = ([37] : List UInt8)
  · rw [if_pos h]; exact Ev.congr (fun k => by unfold impl_Unquote.f; rw [if_pos h]) (Ev.now _)
  · rw [if_neg h]
    have := impl_loop s hn s.size 0 [] (by omega) (by omega) (by simp)
    rw [List.drop_zero] at this
    have e : so (implF s) [] (li s.data.toList) = so specF [] (ud s.data.toList) := by
      cases hu : ud s.data.toList with
      | some d =>
        obtain ⟨h1, h2⟩ := ql_ud _ _ d (Nat.le_refl _) hu
        rw [h2]
        simp only [so, List.nil_append, implF, specF, nums_back]
        rw [if_pos h1]
      | none =>
        cases hl : li s.data.toList with
        | none => rfl
        | some d =>
          simp only [so, List.nil_append, implF, nums_back]
          rw [if_neg (fun h => by rw [ud_of _ _ h] at hu; cases hu)]
          unfold fin; split <;> (try rfl); split <;> rfl
    rw [← e]
    exact Ev.congr (fun k => by unfold impl_Unquote.f; rw [if_neg h]; rfl) this
theorem bytes_ev (c : List Int) (z : Int) (hc : c.length ≤ 1048576) (hb : ∀ x ∈ c, 0 ≤ x ∧ x ≤ 255) (n : Nat) (hn : n ≤ 1000) : ∀ (d i : Nat) (x : List Int) (a : Int), i + d = n → x.length = i → 0 ≤ a → a + d ≤ 900000 →
    ∃ r, Ev (fun k => spec_l1DrawBytes.l0 k (n : Int) x (i : Int) c a z) (r, a + d, z) ∧ r.length = n := by
  intro d
  induction d with
  | zero =>
    intro i x a hi hx h0 h1
    refine ⟨x, Ev.step (f := fun _ => some (x, a, z)) (fun k => ?_) ?_, by omega⟩
    · simp only [spec_l1DrawBytes.l0]; rw [if_neg (by omega)]
    · rw [show a + ((0 : Nat) : Int) = a by omega]; exact Ev.now _
  | succ d ih =>
    intro i x a hi hx h0 h1
    obtain ⟨v, hv, _⟩ := next_ev c a z 256 hc hb h0 (by omega) (by omega)
    obtain ⟨r, hr, hl⟩ := ih (i + 1) (x ++ [v % 256]) (a + 1) (by omega) (by rw [List.length_append, hx]; rfl) (by omega) (by omega)
    refine ⟨r, ?_, hl⟩
    have e1 : a + ((d + 1 : Nat) : Int) = a + 1 + (d : Int) := by omega
    rw [e1]
    refine Ev.step (fun k => ?_) hr
    have e2 : wrap64 ((i : Int) + 1) = ((i + 1 : Nat) : Int) := by rw [w64 (by omega) (by omega)]; rfl
    have e3 : x.length < 140737488355328 := by omega
    simp only [spec_l1DrawBytes.l0]
    rw [if_pos (by omega), hv, Option.bind_some, if_pos e3, e2]
theorem draw_bytes (c : List Int) (a z n : Int) (hc : c.length ≤ 1048576) (hb : ∀ x ∈ c, 0 ≤ x ∧ x ≤ 255) (h0 : 0 ≤ a) (h1 : a ≤ 1000) (n0 : 0 ≤ n) (n1 : n ≤ 1000) :
    ∃ r a', Ev (fun k => spec_l1DrawBytes.f k c a z n) (r, a', z) ∧ (r.length : Int) = n ∧ a ≤ a' ∧ a' ≤ a + 1000 := by
  obtain ⟨m, rfl⟩ := Int.eq_ofNat_of_zero_le n0
  obtain ⟨r, hr, hl⟩ := bytes_ev c z hc hb m (by omega) m 0 [] a (by omega) rfl h0 (by omega)
  exact ⟨r, a + m, hr, by omega, by omega, by omega⟩
theorem drawQuote_ev (c : List Int) (hc : c.length ≤ 1048576) (hb : ∀ x ∈ c, 0 ≤ x ∧ x ≤ 255) : ∃ s, Ev (fun k => spec_DrawQuote.f k c) s ∧ s.size ≤ 65537 := by
  obtain ⟨z, hz, _⟩ := source_ev c hc
  obtain ⟨v, hv, v0, v1, _⟩ := next_ev c 0 z 25 hc hb (by omega) (by omega) (by omega)
  by_cases h : v = 7
  · obtain ⟨u, hu, u0, u1, _⟩ := next_ev c (0 + 1) z 2 hc hb (by omega) (by omega) (by omega)
    have u2 := u1 (by omega)
    have e1 : wrap64 (65536 + u) = 65536 + u := w64 (by omega) (by omega)
    refine ⟨strOfNums (List.replicate (65536 + u : Int).toNat 0), Ev.congr (f := fun _ => some (strOfNums (List.replicate (65536 + u : Int).toNat 0))) (fun k => ?_) (Ev.now _), by rw [strOfNums_size, List.length_replicate]; omega⟩
    unfold spec_DrawQuote.f
    rw [hz, Option.bind_some]
    simp only []
    rw [hv, Option.bind_some]
    simp only []
    rw [if_pos h, hu, Option.bind_some]
    simp only []
    rw [e1, if_pos (by omega), if_pos (by omega)]
  · obtain ⟨u, hu, u0, u1, _⟩ := next_ev c (0 + 1) z 12 hc hb (by omega) (by omega) (by omega)
    have u2 := u1 (by omega)
    obtain ⟨r, a', hr, hl, _⟩ := draw_bytes c (0 + 1 + 1) z u hc hb (by omega) (by omega) u0 (by omega)
    refine ⟨strOfNums r, Ev.congr (f := fun k => (spec_l1DrawBytes.f k c (0 + 1 + 1) z u).bind fun b => some (strOfNums b.1)) (fun k => ?_) (hr.bind (Ev.now _)), by rw [strOfNums_size]; omega⟩
    unfold spec_DrawQuote.f
    rw [hz, Option.bind_some]
    simp only []
    rw [hv, Option.bind_some]
    simp only []
    rw [if_neg h, hu, Option.bind_some]
theorem j2_ev (c : List Int) (a z : Int) (hc : c.length ≤ 1048576) (hb : ∀ x ∈ c, 0 ≤ x ∧ x ≤ 255) (h0 : 0 ≤ a) (h1 : a ≤ 5000) (x : List Int) (hx : x.length ≤ 64) (v : Int) (t : Bool) :
    ∃ r a', Ev (fun k => spec_l3Turn.j2 k x v t c a z) (r, a', z) ∧ r.length ≤ 65 := by
  have hx2 : x.length < 140737488355328 := by omega
  cases t with
  | true => exact ⟨x ++ [0], a, Ev.step (f := fun _ => some (x ++ [0], a, z)) (fun k => by simp only [spec_l3Turn.j2]; rw [if_pos trivial, if_pos hx2]) (Ev.now _), by rw [List.length_append, List.length_singleton]; omega⟩
  | false =>
    by_cases h : v = 5
    · obtain ⟨b, hb2⟩ := chance_ev c a z 3 hc hb h0 (by omega) (by omega)
      cases b with
      | true =>
        obtain ⟨r, a', hr, hl, _⟩ := fill_some c (a + 1) z hc hb (by omega) (by omega)
        refine ⟨r, a', Ev.step (f := fun k => (spec_l1Fill.f k c (a + 1) z).bind fun b => some (b.1, b.2.1, b.2.2)) (fun k => ?_) (hr.bind (Ev.now _)), by omega⟩
        simp only [spec_l3Turn.j2]
        rw [if_neg (by simp), if_pos h, hb2, Option.bind_some, if_pos rfl]
      | false =>
        refine ⟨x, a + 1, Ev.step (f := fun k => some (x, a + 1, z)) (fun k => ?_) (Ev.now _), by omega⟩
        simp only [spec_l3Turn.j2]
        rw [if_neg (by simp), if_pos h, hb2, Option.bind_some, if_neg (by simp)]
    · refine ⟨x, a, Ev.step (f := fun k => some (x, a, z)) (fun k => ?_) (Ev.now _), by omega⟩
      simp only [spec_l3Turn.j2]
      rw [if_neg (by simp), if_neg h]
theorem j1_ev (c : List Int) (a z : Int) (hc : c.length ≤ 1048576) (hb : ∀ x ∈ c, 0 ≤ x ∧ x ≤ 255) (h0 : 0 ≤ a) (h1 : a ≤ 4000) (x : List Int) (hx : x.length ≤ 64) (hx0 : 0 < x.length) (v : Int) (t : Bool) :
    ∃ r a', Ev (fun k => spec_l3Turn.j1 k x v (x.length : Int) t c a z) (r, a', z) ∧ r.length ≤ 65 := by
  cases t with
  | true =>
    have e1 : wrap64 ((x.length : Int) - 1) = (x.length : Int) - 1 := w64 (by omega) (by omega)
    refine ⟨x.take ((x.length : Int) - 1).toNat, a, Ev.step (f := fun k => some (x.take ((x.length : Int) - 1).toNat, a, z)) (fun k => ?_) (Ev.now _), by rw [List.length_take]; omega⟩
    simp only [spec_l3Turn.j1]
    rw [if_pos trivial, e1, if_pos (by omega), if_pos (by omega)]
  | false =>
    by_cases h : v = 4
    · obtain ⟨b, hb2⟩ := chance_ev c a z 2 hc hb h0 (by omega) (by omega)
      obtain ⟨r, a', hr, hl⟩ := j2_ev c (a + 1) z hc hb (by omega) (by omega) x hx v b
      refine ⟨r, a', Ev.step (fun k => ?_) hr, hl⟩
      simp only [spec_l3Turn.j1]
      rw [if_neg (by simp), if_pos h, hb2, Option.bind_some]
    · obtain ⟨r, a', hr, hl⟩ := j2_ev c a z hc hb (by omega) (by omega) x hx v false
      refine ⟨r, a', Ev.step (fun k => ?_) hr, hl⟩
      simp only [spec_l3Turn.j1]
      rw [if_neg (by simp), if_neg h]
theorem j0_ev (c : List Int) (a z : Int) (hc : c.length ≤ 1048576) (hb : ∀ x ∈ c, 0 ≤ x ∧ x ≤ 255) (h0 : 0 ≤ a) (h1 : a ≤ 3000) (x : List Int) (hx : x.length ≤ 64) (hx0 : 0 < x.length) (v n : Int) (hn : n = (x.length : Int)) :
    ∃ r a', Ev (fun k => spec_l3Turn.j0 k x v n c a z) (r, a', z) ∧ r.length ≤ 65 := by
  subst hn
  by_cases h : v = 3
  · obtain ⟨b, hb2⟩ := chance_ev c a z 2 hc hb h0 (by omega) (by omega)
    obtain ⟨r, a', hr, hl⟩ := j1_ev c (a + 1) z hc hb (by omega) (by omega) x hx hx0 v b
    refine ⟨r, a', Ev.step (fun k => ?_) hr, hl⟩
    simp only [spec_l3Turn.j0]
    rw [if_pos h, hb2, Option.bind_some]
  · obtain ⟨r, a', hr, hl⟩ := j1_ev c a z hc hb (by omega) (by omega) x hx hx0 v false
    refine ⟨r, a', Ev.step (fun k => ?_) hr, hl⟩
    simp only [spec_l3Turn.j0]
    rw [if_neg h]
theorem turn_ev (c : List Int) (a z : Int) (hc : c.length ≤ 1048576) (hb : ∀ x ∈ c, 0 ≤ x ∧ x ≤ 255) (h0 : 0 ≤ a) (h1 : a ≤ 2000) (l : List Int) (hl : l.length ≤ 64) (hl0 : 0 < l.length) :
    ∃ r a', Ev (fun k => spec_l3Turn.f k c a z l) (r, a', z) ∧ r.length ≤ 65 := by
  obtain ⟨v, hv, _⟩ := next_ev c a z 8 hc hb h0 (by omega) (by omega)
  by_cases h : v < 3
  rotate_left
  · obtain ⟨r, a', hr, hl2⟩ := j0_ev c (a + 1) z hc hb (by omega) (by omega) l hl hl0 v (l.length : Int) rfl
    refine ⟨r, a', Ev.congr (fun k => ?_) hr, hl2⟩
    unfold spec_l3Turn.f
    rw [hv, Option.bind_some, if_neg (by omega), if_neg h]
  · obtain ⟨u, hu, u0, u1, _⟩ := next_ev c (a + 1) z (l.length : Int) hc hb (by omega) (by omega) (by omega)
    have u2 := u1 (by omega)
    obtain ⟨b, hb2⟩ := chance_ev c (a + 1 + 1) z 2 hc hb (by omega) (by omega) (by omega)
    have fits : ∀ t : Int, 0 ≤ t → 0 ≤ Int.tmod t (l.length : Int) ∧ Int.tmod t (l.length : Int) < (l.length : Int) := fun t ht => by
      rw [Int.tmod_eq_emod_of_nonneg ht]
      exact ⟨Int.emod_nonneg _ (by omega), Int.emod_lt_of_pos _ (by omega)⟩
    cases b with
    | true =>
      obtain ⟨t, ht, t0, _⟩ := next_ev c (a + 1 + 1 + 1) z 16 hc hb (by omega) (by omega) (by omega)
      have f := fits t t0
      obtain ⟨y, hy, _⟩ := next_ev c (a + 1 + 1 + 1 + 1) z 255 hc hb (by omega) (by omega) (by omega)
      obtain ⟨r, a', hr, hl2⟩ := j0_ev c (a + 1 + 1 + 1 + 1 + 1) z hc hb (by omega) (by omega) (l.set ((Int.tmod t (l.length : Int)) : Int).toNat (Go.bits .xor .u8 (rd l (Int.tmod t (l.length : Int))) ((wrap64 (1 + y)) % 256))) (by rw [List.length_set]; exact hl) (by rw [List.length_set]; exact hl0) v (l.length : Int) (by rw [List.length_set])
      refine ⟨r, a', Ev.congr (fun k => ?_) hr, hl2⟩
      unfold spec_l3Turn.f
      rw [hv, Option.bind_some, if_neg (by omega), if_pos h, hu, Option.bind_some, hb2, Option.bind_some, if_pos rfl, ht, Option.bind_some, if_pos f.1, if_pos f.2, hy, Option.bind_some]
    | false =>
      have f := fits u u0
      obtain ⟨y, hy, _⟩ := next_ev c (a + 1 + 1 + 1) z 255 hc hb (by omega) (by omega) (by omega)
      obtain ⟨r, a', hr, hl2⟩ := j0_ev c (a + 1 + 1 + 1 + 1) z hc hb (by omega) (by omega) (l.set ((Int.tmod u (l.length : Int)) : Int).toNat (Go.bits .xor .u8 (rd l (Int.tmod u (l.length : Int))) ((wrap64 (1 + y)) % 256))) (by rw [List.length_set]; exact hl) (by rw [List.length_set]; exact hl0) v (l.length : Int) (by rw [List.length_set])
      refine ⟨r, a', Ev.congr (fun k => ?_) hr, hl2⟩
      unfold spec_l3Turn.f
      rw [hv, Option.bind_some, if_neg (by omega), if_pos h, hu, Option.bind_some, hb2, Option.bind_some, if_neg (by simp), if_pos f.1, if_pos f.2, hy, Option.bind_some]
theorem xs_ev : ∀ (d : Nat) (x : List Int), x.length + d ≤ 100000 → ∃ s, Ev (fun k => spec_DrawUnquote.l0 k x (d : Int)) s ∧ s.size = x.length + d := by
  intro d
  induction d with
  | zero => intro x hx; exact ⟨strOfNums x, Ev.step (f := fun _ => some (strOfNums x)) (fun k => by simp only [spec_DrawUnquote.l0]; rw [if_neg (by omega)]) (Ev.now _), by rw [strOfNums_size]; rfl⟩
  | succ d ih =>
    intro x hx
    obtain ⟨s, hs, hl⟩ := ih (x ++ [120]) (by rw [List.length_append, List.length_singleton]; omega)
    refine ⟨s, Ev.step (fun k => ?_) hs, by rw [hl, List.length_append, List.length_singleton]; omega⟩
    have e1 : wrap64 (((d + 1 : Nat) : Int) - 1) = (d : Int) := by rw [w64 (by omega) (by omega)]; omega
    have e2 : x.length < 140737488355328 := by omega
    simp only [spec_DrawUnquote.l0]
    rw [if_pos (by omega), if_pos e2, e1]
theorem qF_some (s : ByteArray) : ∃ q, qF s = some q ∧ q.size ≤ 196608 ∧ (s.size ≤ 65536 → 0 < q.size) ∧ (s.size ≤ 65536 → q.size ≤ 3 * s.size + 1) := by
  unfold qF
  by_cases h1 : s.size > 65536
  · exact ⟨_, by rw [if_pos h1], by decide, fun h => by omega, fun h => by omega⟩
  rw [if_neg h1]
  by_cases h2 : s.size = 0
  · exact ⟨_, by rw [if_pos h2], by decide, fun _ => by decide, fun _ => by rw [h2]; decide⟩
  have h3 := ql_len s.data.toList
  have h4 : s.data.toList.length = s.size := data_length s
  have h5 : (⟨(ql s.data.toList).toArray⟩ : ByteArray).size = (ql s.data.toList).length := rfl
  refine ⟨_, by rw [if_neg h2], by omega, fun _ => ?_, fun _ => by omega⟩
  rw [h5]
  cases e : s.data.toList with
  | nil => rw [e] at h4; exact absurd h4.symm h2
  | cons c r =>
    simp only [ql, List.flatMap_cons, List.length_append]
    unfold qb
    split <;> simp <;> omega
theorem drawUnquote_ev (c : List Int) (hc : c.length ≤ 1048576) (hb : ∀ x ∈ c, 0 ≤ x ∧ x ≤ 255) : ∃ s, Ev (fun k => spec_DrawUnquote.f k c) s ∧ s.size ≤ 65537 := by
  obtain ⟨z, hz, _⟩ := source_ev c hc
  obtain ⟨v, hv, v0, v1, _⟩ := next_ev c 0 z 12 hc hb (by omega) (by omega) (by omega)
  have v2 := v1 (by omega)
  obtain ⟨r, a, hr, hrl, ha, ha2⟩ := draw_bytes c (0 + 1) z v hc hb (by omega) (by omega) v0 (by omega)
  obtain ⟨q, hq, _, hq0, hq2⟩ := qF_some (strOfNums r)
  rw [strOfNums_size] at hq0 hq2
  have q0 := hq0 (by omega)
  have q2 := hq2 (by omega)
  obtain ⟨b, hb1⟩ := chance_ev c a z 40 hc hb (by omega) (by omega) (by omega)
  have head : ∀ (G : Nat → Option ByteArray) (s : ByteArray), (∀ k, ((spec_l1Chance.f c a z 40).bind fun bt243 => (if bt243.1 = true then ((spec_l1Next.f c bt243.2.1 bt243.2.2 2).bind fun bt249 => (spec_DrawUnquote.l0 k (([] : List Int)) (wrap64 (65536 + bt249.1)))) else ((spec_l1Chance.f c bt243.2.1 bt243.2.2 2).bind fun bt255 => (if bt255.1 = true then (if ([] : List Int).length + q.size < 140737488355328 then ((spec_l3Turn.f k c bt255.2.1 bt255.2.2 (([] : List Int) ++ bytesOf q)).bind fun bt261 => (some (strOfNums bt261.1))) else (none)) else (some q))))) = G k) → Ev G s → Ev (fun k => spec_DrawUnquote.f k c) s := by
    intro G s hG hE
    refine Ev.congr (f := fun k => (spec_l1DrawBytes.f k c (0 + 1) z v).bind fun bt237 => ((spec_Quote.f (strOfNums bt237.1)).bind fun t242 => ((spec_l1Chance.f c bt237.2.1 bt237.2.2 40).bind fun bt243 => (if bt243.1 = true then ((spec_l1Next.f c bt243.2.1 bt243.2.2 2).bind fun bt249 => (spec_DrawUnquote.l0 k (([] : List Int)) (wrap64 (65536 + bt249.1)))) else ((spec_l1Chance.f c bt243.2.1 bt243.2.2 2).bind fun bt255 => (if bt255.1 = true then (if ([] : List Int).length + t242.size < 140737488355328 then ((spec_l3Turn.f k c bt255.2.1 bt255.2.2 (([] : List Int) ++ bytesOf t242)).bind fun bt261 => (some (strOfNums bt261.1))) else (none)) else (some t242))))))) (fun k => by unfold spec_DrawUnquote.f; rw [hz, Option.bind_some, hv, Option.bind_some]) ?_
    refine hr.bind (Ev.congr (fun k => ?_) hE)
    unfold spec_Quote.f
    rw [hq, Option.bind_some]; exact hG k
  cases b with
  | true =>
    obtain ⟨u, hu, u0, u1, _⟩ := next_ev c (a + 1) z 2 hc hb (by omega) (by omega) (by omega)
    have u2 := u1 (by omega)
    obtain ⟨n, rfl⟩ := Int.eq_ofNat_of_zero_le u0
    obtain ⟨s, hs, hl⟩ := xs_ev (65536 + n) [] (by simp; omega)
    refine ⟨s, head _ s (fun k => ?_) hs, by rw [hl]; simp; omega⟩
    rw [hb1, Option.bind_some, if_pos rfl, hu, Option.bind_some, w64 (by omega) (by omega)]
    rfl
  | false =>
    obtain ⟨b2, hb2⟩ := chance_ev c (a + 1) z 2 hc hb (by omega) (by omega) (by omega)
    cases b2 with
    | false =>
      refine ⟨q, head _ q (fun k => ?_) (Ev.now _), by omega⟩
      rw [hb1, Option.bind_some, if_neg (by simp), hb2, Option.bind_some, if_neg (by simp)]
    | true =>
      obtain ⟨t, a', ht, hl⟩ := turn_ev c (a + 1 + 1) z hc hb (by omega) (by omega) ([] ++ bytesOf q) (by rw [List.nil_append, bytesOf_length]; omega) (by rw [List.nil_append, bytesOf_length]; omega)
      refine ⟨strOfNums t, head _ _ (fun k => ?_) (ht.bind (f := fun _ (b : List Int × Int × Int) => some (strOfNums b.1)) (Ev.now _)), by rw [strOfNums_size]; omega⟩
      have e : ([] : List Int).length + q.size < 140737488355328 := by rw [List.length_nil]; omega
      rw [hb1, Option.bind_some, if_neg (by simp), hb2, Option.bind_some, if_pos rfl, if_pos e]
theorem qb_print (c : UInt8) : ∀ x ∈ qb c, 33 ≤ x.toNat ∧ x.toNat ≤ 126 := by
  have hx_print : ∀ n : Nat, n < 16 → 33 ≤ (hx n).toNat ∧ (hx n).toNat ≤ 126 := by decide +kernel
  have hc : c.toNat < 256 := UInt8.toNat_lt c
  intro x hx
  unfold qb at hx
  by_cases h : qp c = true
  · rw [if_pos h, List.mem_singleton] at hx
    subst hx
    unfold qp at h
    simp only [Bool.and_eq_true, decide_eq_true_eq] at h
    omega
  · rw [if_neg h] at hx
    simp only [List.mem_cons, List.not_mem_nil, or_false] at hx
    rcases hx with rfl | rfl | rfl
    · decide
    · exact hx_print _ (by omega)
    · exact hx_print _ (by omega)
theorem ql_print (l : List UInt8) : ∀ x ∈ ql l, 33 ≤ x.toNat ∧ x.toNat ≤ 126 := by
  intro x hx
  obtain ⟨c, _, h⟩ := List.mem_flatMap.1 hx
  exact qb_print c x h
/-- The quoting of data that may be: it comes back; it is printable; it is some. -/
theorem back (s q : ByteArray) (h : s.size ≤ 65536) (hq : qF s = some q) : uq q = (true, s) ∧ ∀ x ∈ q.data.toList, 33 ≤ x.toNat ∧ x.toNat ≤ 126 := by
  unfold qF at hq
  rw [if_neg (by omega)] at hq
  by_cases h2 : s.size = 0
  · rw [if_pos h2] at hq
    obtain rfl := Option.some.inj hq
    obtain rfl : s = ⟨#[]⟩ := by
      rcases s with ⟨a⟩
      have : a = #[] := Array.eq_empty_of_size_eq_zero h2
      rw [this]
    exact ⟨by decide +kernel, by decide⟩
  · rw [if_neg h2] at hq
    obtain rfl := Option.some.inj hq
    refine ⟨?_, ql_print _⟩
    have e1 : (⟨(ql s.data.toList).toArray⟩ : ByteArray).data.toList = ql s.data.toList := rfl
    have hn : ¬ (⟨(ql s.data.toList).toArray⟩ : ByteArray).toList = ([37] : List UInt8) := by
      intro e
      rw [ByteArray.toList_eq, e1] at e
      have := ud_ql s.data.toList
      rw [e] at this
      exact absurd this (by simp [ud_cons, udT, qp])
    unfold uq
    rw [if_neg hn, e1, ud_ql]
    have h4 : s.data.toList.length = s.size := data_length s
    simp only [so, specF, fin, List.nil_append, List.length_map, h4]
    rw [if_neg (by omega), if_neg (by omega), spec_Quote.str]
/-- What is unquoted is quoted as it stood. -/
theorem forth (t d : ByteArray) (h : uq t = (true, d)) : ∃ q, qF d = some q ∧ q.toList = t.toList := by
  unfold uq at h
  by_cases h1 : t.toList = ([37] : List UInt8)
  · rw [if_pos h1] at h
    obtain rfl : (⟨#[]⟩ : ByteArray) = d := (Prod.mk.inj h).2
    exact ⟨⟨#[37]⟩, rfl, by rw [h1]; decide +kernel⟩
  rw [if_neg h1] at h
  cases hu : ud t.data.toList with
  | none => rw [hu] at h; cases h
  | some l =>
    rw [hu] at h
    simp only [so, specF, fin, List.nil_append, List.length_map] at h
    by_cases h2 : (l.length : Int) = 0
    · rw [if_pos h2] at h; cases h
    rw [if_neg h2] at h
    by_cases h3 : (l.length : Int) > 65536
    · rw [if_pos h3] at h; cases h
    rw [if_neg h3, spec_Quote.str] at h
    obtain rfl : (⟨l.toArray⟩ : ByteArray) = d := (Prod.mk.inj h).2
    have hs : (⟨l.toArray⟩ : ByteArray).size = l.length := rfl
    refine ⟨⟨(ql l).toArray⟩, ?_, ?_⟩
    · unfold qF
      rw [hs, if_neg (by omega), if_neg (by omega)]
    · rw [ByteArray.toList_eq, ByteArray.toList_eq]
      exact (ql_ud _ _ _ (Nat.le_refl _) hu).1
theorem fin_ev (c : List Int) (hc : c.length ≤ 1048576) (hb : ∀ x ∈ c, 0 ≤ x ∧ x ≤ 255) (s q : ByteArray) (hq0 : 0 < q.size) : Ev (fun k => (spec_DrawUnquote.f k c).bind fun t271 => ((impl_Unquote.f k t271).bind fun bt272 => (if true = true then (if s.toList = s.toList then (if (q.size : Int) > 0 then (if bt272.1 = true then ((impl_Quote.f bt272.2).bind fun t275 => (some (t275.toList == t271.toList))) else (some true)) else (some false)) else (some false)) else (some false)))) true := by
  obtain ⟨t, ht, hl⟩ := drawUnquote_ev c hc hb
  refine ht.bind ((impl_uq t (by omega)).bind ?_)
  obtain ⟨g, d, he⟩ : ∃ g d, uq t = (g, d) := ⟨_, _, rfl⟩
  rw [he]
  refine Ev.congr (f := fun _ => some true) (fun k => ?_) (Ev.now _)
  rw [if_pos rfl, if_pos rfl, if_pos (by omega)]
  cases g with
  | false => rw [if_neg (by simp)]
  | true =>
    obtain ⟨q', h1, h2⟩ := forth t d he
    unfold impl_Quote.f
    rw [if_pos rfl, h1, Option.bind_some, h2]; simp
theorem loop_ev (c : List Int) (hc : c.length ≤ 1048576) (hb : ∀ x ∈ c, 0 ≤ x ∧ x ≤ 255) (s q : ByteArray) (hq0 : 0 < q.size) (hq1 : q.size ≤ 1048576) (hp : ∀ x ∈ q.data.toList, 33 ≤ x.toNat ∧ x.toNat ≤ 126) : ∀ (d i : Nat), i + d = q.size → Ev (fun k => laws_FnQuote.l0 k c s q (i : Int) true s) true := by
  intro d
  induction d with
  | zero =>
    intro i hi
    refine Ev.step (fun k => ?_) (fin_ev c hc hb s q hq0)
    simp only [laws_FnQuote.l0]
    rw [if_neg (by omega)]
  | succ d ih =>
    intro i hi
    refine Ev.step (fun k => ?_) (ih (i + 1) (by omega))
    have h := hp q[i] (by
      have : q[i] = q.data.toList[i]'(by rw [data_length]; omega) := rfl
      rw [this]; exact List.getElem_mem _)
    have e : bt q (i : Int) = (q[i].toNat : Int) := bt_i q i (by omega)
    have e2 : wrap64 ((i : Int) + 1) = ((i + 1 : Nat) : Int) := by rw [w64 (by omega) (by omega)]; rfl
    simp only [laws_FnQuote.l0]
    rw [if_pos (by omega), if_pos (by omega), e, if_neg (by omega), if_neg (by omega), e2]
theorem FnQuote : laws_FnQuote.Pure := by
  intro l0 _ _ hw
  by_cases h : (l0.length : Int) > 1048576
  · exact Ev.rounds (Ev.congr (fun k => by unfold laws_FnQuote.f; rw [if_pos h]) (Ev.now true))
  have hc : l0.length ≤ 1048576 := by omega
  have hb : ∀ x ∈ l0, 0 ≤ x ∧ x ≤ 255 := fun x hx => wfb (hw x hx)
  refine Ev.rounds (Ev.congr (fun k => by unfold laws_FnQuote.f; rw [if_neg h]) ?_)
  obtain ⟨s, hs, hsl⟩ := drawQuote_ev l0 hc hb
  obtain ⟨q, hq, hq1, hq0, _⟩ := qF_some s
  refine hs.bind ?_
  refine Ev.congr (f := fun k => (impl_Unquote.f k q).bind fun bt268 => (if (s.size : Int) > 65536 then (if q.toList = ([] : List UInt8) then (some (!bt268.1)) else (some false)) else (laws_FnQuote.l0 k l0 s q 0 bt268.1 bt268.2))) (fun k => by unfold impl_Quote.f; rw [hq, Option.bind_some]) ?_
  refine (impl_uq q (by omega)).bind ?_
  by_cases h2 : (s.size : Int) > 65536
  · unfold qF at hq
    rw [if_pos (by omega)] at hq
    obtain rfl := Option.some.inj hq
    refine Ev.congr (f := fun _ => some true) (fun k => ?_) (Ev.now _)
    rw [if_pos h2, if_pos (by decide +kernel)]
    decide +kernel
  · obtain ⟨h3, h4⟩ := back s q (by omega) hq
    refine Ev.congr (fun k => by rw [if_neg h2, h3]; rfl) (loop_ev l0 hc hb s q (hq0 (by omega)) (by omega) h4 q.size 0 (by omega))
end Go.Proofs.Ytikandlenlhdkaa.Pure
