/- FnExactUnquote: at every text the program's Unquote answers as the reference's. -/
import Derived.Test.YtikandlenlhdkaaPFnExactUnquotex2
import Derived.Test.YtikandlenlhdkaaHlp
namespace Go.Proofs.Ytikandlenlhdkaa.Pure
open Go.RowKit Go.Proofs.Ytikandlenlhdkaa.PFnExactUnquote Go.Proofs.YtikandlenlhdkaaW.PrintWords Go.Proofs.YtikandlenlhdkaaW.PrintLast Go.Proofs.Ytikandlenlhdkaa.Hlp Go.Proofs.Ytikandlenlhdkaa.Qt
/-- The value of a digit; -1: it is none. -/
def hexL : List UInt8 := [48, 49, 50, 51, 52, 53, 54, 55, 56, 57, 97, 98, 99, 100, 101, 102]
def hd (b : UInt8) : Int := Lib.indexByte hexL b
def hv (a b : UInt8) : UInt8 := UInt8.ofNat ((hd a * 16 + hd b).toNat)
/-- The bytes that a text says in the one form; none: it is not in it. -/
def ud : List UInt8 → Option (List UInt8)
  | [] => some []
  | c :: r => if qp c = true then (ud r).map (c :: ·) else if c = 37 then
      (match r with
      | a :: b :: r' => if hd a < 0 ∨ hd b < 0 ∨ qp (hv a b) = true then none else (ud r').map (hv a b :: ·)
      | _ => none) else none
/-- The bytes that a text says, in whatever form. -/
def li : List UInt8 → Option (List UInt8)
  | [] => some []
  | c :: r => if c = 37 then
      (match r with
      | a :: b :: r' => if hd a < 0 ∨ hd b < 0 then none else (li r').map (hv a b :: ·)
      | _ => none) else (li r).map (c :: ·)
def udT (r : List UInt8) : Option (List UInt8) := match r with | a :: b :: r' => if hd a < 0 ∨ hd b < 0 ∨ qp (hv a b) = true then none else (ud r').map (hv a b :: ·) | _ => none
def liT (r : List UInt8) : Option (List UInt8) := match r with | a :: b :: r' => if hd a < 0 ∨ hd b < 0 then none else (li r').map (hv a b :: ·) | _ => none
theorem ud_cons (c : UInt8) (r : List UInt8) : ud (c :: r) = if qp c = true then (ud r).map (c :: ·) else if c = 37 then udT r else none := by
  match r with
  | [] => simp [ud, udT]
  | [a] => simp [ud, udT]
  | a :: b :: r' => rw [ud]; rfl
theorem li_cons (c : UInt8) (r : List UInt8) : li (c :: r) = if c = 37 then liT r else (li r).map (c :: ·) := by
  match r with
  | [] => simp [li, liT]
  | [a] => simp [li, liT]
  | a :: b :: r' => rw [li]; rfl
theorem hd_facts : ∀ b : UInt8, hd b = -1 ∨ (0 ≤ hd b ∧ hd b < 16 ∧ hx (hd b).toNat = b) := by
  have : ∀ n : Fin 256, hd (UInt8.ofNat n.1) = -1 ∨ (0 ≤ hd (UInt8.ofNat n.1) ∧ hd (UInt8.ofNat n.1) < 16 ∧ hx (hd (UInt8.ofNat n.1)).toNat = UInt8.ofNat n.1) := by decide +kernel
  intro b
  have h := this ⟨b.toNat, UInt8.toNat_lt b⟩
  rwa [show UInt8.ofNat b.toNat = b from UInt8.ofNat_toNat] at h
theorem hd_hx : ∀ n : Nat, n < 16 → hd (hx n) = (n : Int) := by decide +kernel
theorem qp37 : ¬ qp 37 = true := by decide
theorem qp_ne (c : UInt8) (h : qp c = true) : c ≠ 37 := fun e => qp37 (e ▸ h)
theorem hv_hx (c : UInt8) : hv (hx (c.toNat / 16)) (hx (c.toNat % 16)) = c := by
  have hc : c.toNat < 256 := UInt8.toNat_lt c
  unfold hv
  rw [hd_hx _ (by omega), hd_hx _ (by omega), show (((c.toNat / 16 : Nat) : Int) * 16 + ((c.toNat % 16 : Nat) : Int)).toNat = c.toNat by omega]
  exact UInt8.ofNat_toNat
theorem ud_ql : ∀ d : List UInt8, ud (ql d) = some d
  | [] => rfl
  | c :: d => by
    have ih := ud_ql d
    have hc : c.toNat < 256 := UInt8.toNat_lt c
    have e : ql (c :: d) = qb c ++ ql d := rfl
    rw [e]
    unfold qb
    by_cases h : qp c = true
    · rw [if_pos h]
      show ud (c :: ql d) = _
      rw [ud_cons, if_pos h, ih]; rfl
    · rw [if_neg h]
      show ud (37 :: hx (c.toNat / 16) :: hx (c.toNat % 16) :: ql d) = _
      rw [ud_cons, if_neg qp37, if_pos rfl]
      simp only [udT, hv_hx, ih, hd_hx _ (show c.toNat / 16 < 16 by omega), hd_hx _ (show c.toNat % 16 < 16 by omega)]
      rw [if_neg (by intro h1; rcases h1 with h1 | h1 | h1 <;> first | omega | exact h h1)]; rfl
theorem ql_ud : ∀ (m : Nat) (T d : List UInt8), T.length ≤ m → ud T = some d → ql d = T ∧ li T = some d := by
  intro m
  induction m with
  | zero =>
    intro T d hm h
    obtain rfl : T = [] := List.eq_nil_of_length_eq_zero (by omega)
    rw [ud] at h; cases h; exact ⟨rfl, rfl⟩
  | succ m ih =>
    intro T d hm h
    cases T with
    | nil => rw [ud] at h; cases h; exact ⟨rfl, rfl⟩
    | cons c r =>
      rw [ud_cons] at h
      by_cases h1 : qp c = true
      · rw [if_pos h1] at h
        obtain ⟨d', h2, rfl⟩ := Option.map_eq_some_iff.1 h
        obtain ⟨e1, e2⟩ := ih r d' (by simpa using hm) h2
        refine ⟨?_, ?_⟩
        · show qb c ++ ql d' = _
          unfold qb; rw [if_pos h1, e1]; rfl
        · rw [li_cons, if_neg (qp_ne c h1), e2]; rfl
      · rw [if_neg h1] at h
        by_cases h2 : c = 37
        rotate_left
        · rw [if_neg h2] at h; cases h
        subst h2
        rw [if_pos rfl] at h
        match r, h with
        | [], h => cases h
        | [_], h => cases h
        | a :: b :: r', h =>
          simp only [udT] at h
          by_cases h3 : hd a < 0 ∨ hd b < 0 ∨ qp (hv a b) = true
          · rw [if_pos h3] at h; cases h
          rw [if_neg h3] at h
          obtain ⟨d', h4, rfl⟩ := Option.map_eq_some_iff.1 h
          obtain ⟨e1, e2⟩ := ih r' d' (by simp at hm; omega) h4
          have ha := (hd_facts a).resolve_left (fun e => h3 (.inl (by omega)))
          have hb := (hd_facts b).resolve_left (fun e => h3 (.inr (.inl (by omega))))
          have hvn : (hv a b).toNat = (hd a * 16 + hd b).toNat := by
            unfold hv
            rw [UInt8.toNat_ofNat']; omega
          refine ⟨?_, ?_⟩
          · show qb (hv a b) ++ ql d' = _
            unfold qb
            rw [if_neg (fun h => h3 (.inr (.inr h))), hvn, e1, show (hd a * 16 + hd b).toNat / 16 = (hd a).toNat by omega, show (hd a * 16 + hd b).toNat % 16 = (hd b).toNat by omega, ha.2.2, hb.2.2]; rfl
          · rw [li_cons, if_pos rfl]
            simp only [liT]
            rw [if_neg (fun h => h3 (h.elim .inl (fun h => .inr (.inl h)))), e2]; rfl
/-- A loose reading whose quoting is the text is the one reading. -/
theorem ud_of (T d : List UInt8) (h : ql d = T) : ud T = some d := by rw [← h]; exact ud_ql d
theorem drop_at (s : ByteArray) (i : Nat) (h : i < s.size) : s.data.toList.drop i = s[i] :: s.data.toList.drop (i + 1) := by
  rw [List.drop_eq_getElem_cons (by simpa using h)]; rfl
theorem bt_i (s : ByteArray) (i : Nat) (h : i < s.size) : bt s (i : Int) = (s[i].toNat : Int) := (bt_at s (i : Int) (by simpa using h)).symm
theorem plainT (c : UInt8) : spec_l14Plain.f (c.toNat : Int) = some (qp c) := by
  unfold qp spec_l14Plain.f
  by_cases h1 : 33 ≤ c.toNat
  · rw [if_pos (by omega), decide_eq_true h1]
    by_cases h2 : c.toNat ≤ 126
    · rw [if_pos (by omega), decide_eq_true h2]
      by_cases h3 : c.toNat = 37
      · rw [h3]; rfl
      · rw [decide_eq_true h3, bne_iff_ne.mpr (by omega : (c.toNat : Int) ≠ 37)]; rfl
    · rw [if_neg (by omega), decide_eq_false h2]; rfl
  · rw [if_neg (by omega), decide_eq_false h1]; rfl
theorem digit_ev (b : UInt8) : Ev (fun k => spec_l14Digit.f k (b.toNat : Int)) (hd b) := by
  have : ∀ n : Fin 256, spec_l14Digit.f 18 (((UInt8.ofNat n.1).toNat : Nat) : Int) = some (hd (UInt8.ofNat n.1)) := by decide +kernel
  have h := this ⟨b.toNat, UInt8.toNat_lt b⟩
  rw [show UInt8.ofNat b.toNat = b from UInt8.ofNat_toNat] at h
  exact Ev.of (spec_l14Digit.mono _) h
theorem index_is (b : UInt8) : strings_IndexByte.f (⟨#[48, 49, 50, 51, 52, 53, 54, 55, 56, 57, 97, 98, 99, 100, 101, 102]⟩ : ByteArray) (b.toNat : Int) = some (hd b) := by
  unfold strings_IndexByte.f hd
  rw [Int.toNat_natCast, show b.toNat.toUInt8 = b from UInt8.ofNat_toNat]; rfl
def no : Bool × ByteArray := (false, ⟨#[]⟩)
def fin (x : List Int) (y : Bool × ByteArray) : Bool × ByteArray := if (x.length : Int) = 0 then no else if (x.length : Int) > 65536 then no else y
/-- What the bytes so far and those that the rest says come to. -/
def so (F : List Int → Bool × ByteArray) (acc : List Int) : Option (List UInt8) → Bool × ByteArray
  | none => no
  | some d => F (acc ++ d.map fun c => (c.toNat : Int))
theorem so_cons (F : List Int → Bool × ByteArray) (acc : List Int) (c : UInt8) (o : Option (List UInt8)) : so F (acc ++ [(c.toNat : Int)]) o = so F acc (o.map (c :: ·)) := by
  cases o with
  | none => rfl
  | some d => simp [so]
theorem hv_int (a b : UInt8) (ha : ¬ hd a < 0) (hb : ¬ hd b < 0) : (wrap64 ((wrap64 (hd a * 16)) + hd b)) % 256 = ((hv a b).toNat : Int) ∧ (Go.bits .or .i64 (wrap64 (hd a * 16)) (hd b)) % 256 = ((hv a b).toNat : Int) := by
  have h1 := (hd_facts a).resolve_left (by omega)
  have h2 := (hd_facts b).resolve_left (by omega)
  have hvn : (hv a b).toNat = (hd a * 16 + hd b).toNat := by
    unfold hv
    rw [UInt8.toNat_ofNat']; omega
  rw [hvn]
  generalize hd a = x at *
  generalize hd b = y at *
  obtain ⟨n, rfl⟩ := Int.eq_ofNat_of_zero_le h1.1
  obtain ⟨m, rfl⟩ := Int.eq_ofNat_of_zero_le h2.1
  have key : ∀ n : Fin 16, ∀ m : Fin 16, (wrap64 ((wrap64 (((n.1 : Nat) : Int) * 16)) + ((m.1 : Nat) : Int))) % 256 = (((((n.1 : Nat) : Int) * 16 + ((m.1 : Nat) : Int)).toNat : Nat) : Int) ∧ (Go.bits .or .i64 (wrap64 (((n.1 : Nat) : Int) * 16)) ((m.1 : Nat) : Int)) % 256 = (((((n.1 : Nat) : Int) * 16 + ((m.1 : Nat) : Int)).toNat : Nat) : Int) := by decide +kernel
  exact key ⟨n, by omega⟩ ⟨m, by omega⟩
def specF (x : List Int) : Bool × ByteArray := fin x (true, strOfNums x)
theorem spec_loop (s : ByteArray) (hn : s.size ≤ 1048576) : ∀ (m i : Nat) (acc : List Int), s.size - i ≤ m → i ≤ s.size → acc.length ≤ i → Ev (fun k => spec_Unquote.l0 k s acc (i : Int)) (so specF acc (ud (s.data.toList.drop i))) := by
  have stop : ∀ (i : Int) (acc : List Int), Ev (fun k => spec_Unquote.j1 k s acc i true) no := fun i acc => Ev.step (f := fun _ => some no) (fun k => by simp only [spec_Unquote.j1]; rw [if_pos trivial]; rfl) (Ev.now _)
  intro m
  induction m with
  | zero =>
    intro i acc hm hi ha
    have e : s.data.toList.drop i = [] := List.drop_eq_nil_of_le (by rw [data_length]; omega)
    rw [e, ud]
    refine Ev.step (f := fun _ => some (specF (acc ++ []))) (fun k => ?_) (Ev.now _)
    simp only [spec_Unquote.l0]
    rw [if_neg (by omega), List.append_nil]
    unfold specF fin no
    split <;> (try rfl); split <;> rfl
  | succ m ih =>
    intro i acc hm hi ha
    by_cases h : i < s.size
    rotate_left
    · exact ih i acc (by omega) hi ha
    have e3 : wrap64 ((i : Int) + 1) = ((i + 1 : Nat) : Int) := by rw [w64 (by omega) (by omega)]; rfl
    have e4 : wrap64 ((i : Int) + 2) = ((i + 2 : Nat) : Int) := by rw [w64 (by omega) (by omega)]; rfl
    have e5 : wrap64 (((i + 2 : Nat) : Int) + 1) = ((i + 3 : Nat) : Int) := by rw [w64 (by omega) (by omega)]; rfl
    rw [drop_at s i h, ud_cons]
    by_cases h1 : qp s[i] = true
    · rw [if_pos h1, ← so_cons]
      refine Ev.step (f := fun k => spec_Unquote.l0 k s (acc ++ [(s[i].toNat : Int)]) ((i + 1 : Nat) : Int)) (fun k => ?_) (ih (i + 1) (acc ++ [(s[i].toNat : Int)]) (by omega) (by omega) (by rw [List.length_append, List.length_singleton]; omega))
      simp only [spec_Unquote.l0]
      rw [if_pos (by omega), if_pos (by omega), bt_i s i h, plainT, Option.bind_some, if_pos h1, if_pos (by omega), e3]
    · rw [if_neg h1]
      by_cases h2 : s[i] = 37
      rotate_left
      · rw [if_neg h2]
        have hne : ¬ (s[i].toNat : Int) = 37 := fun e => h2 (UInt8.toNat_inj.1 (show s[i].toNat = (37 : UInt8).toNat from (Int.ofNat_inj.1 e : s[i].toNat = 37)))
        refine Ev.step (f := fun k => spec_Unquote.j1 k s acc (i : Int) true) (fun k => ?_) (stop _ _)
        simp only [spec_Unquote.l0]
        rw [if_pos (by omega), if_pos (by omega), bt_i s i h, plainT, Option.bind_some, if_neg h1, if_neg hne]
      · rw [if_pos h2]
        have heq : (s[i].toNat : Int) = 37 := by rw [h2]; rfl
        by_cases h3 : i + 2 < s.size
        rotate_left
        · have e6 : decide ((wrap64 ((i : Int) + 2)) ≥ (s.size : Int)) = true := decide_eq_true (by rw [e4]; omega)
          have e7 : udT (s.data.toList.drop (i + 1)) = none := by
            by_cases h4 : i + 1 < s.size
            · rw [drop_at s (i + 1) h4, show s.data.toList.drop (i + 1 + 1) = [] from List.drop_eq_nil_of_le (by rw [data_length]; omega)]; rfl
            · rw [show s.data.toList.drop (i + 1) = [] from List.drop_eq_nil_of_le (by rw [data_length]; omega)]; rfl
          rw [e7]
          refine Ev.step (f := fun k => spec_Unquote.j1 k s acc (i : Int) true) (fun k => ?_) (stop _ _)
          simp only [spec_Unquote.l0]
          rw [if_pos (by omega), if_pos (by omega), bt_i s i h, plainT, Option.bind_some, if_neg h1, if_pos heq, e6]
        · have e6 : decide ((wrap64 ((i : Int) + 2)) ≥ (s.size : Int)) = false := decide_eq_false (by rw [e4]; omega)
          rw [drop_at s (i + 1) (by omega), drop_at s (i + 1 + 1) (by omega)]
          simp only [udT]
          refine Ev.step (f := fun k => spec_Unquote.j1 k s acc (i : Int) false) (fun k => ?_) ?_
          · simp only [spec_Unquote.l0]
            rw [if_pos (by omega), if_pos (by omega), bt_i s i h, plainT, Option.bind_some, if_neg h1, if_pos heq, e6]
          refine Ev.step (f := fun k => (spec_l14Digit.f k (s[i + 1].toNat : Int)).bind fun t110 => (spec_l14Digit.f k (s[i + 1 + 1].toNat : Int)).bind fun t111 => (if t110 < 0 then some no else (if t111 < 0 then some no else ((spec_l14Plain.f ((wrap64 ((wrap64 (t110 * 16)) + t111)) % 256)).bind fun t112 => (if t112 = true then some no else spec_Unquote.l0 k s (acc ++ [(wrap64 ((wrap64 (t110 * 16)) + t111)) % 256]) ((i + 3 : Nat) : Int)))))) (fun k => ?_) ?_
          · simp only [spec_Unquote.j1]
            rw [if_neg (by simp), e3, e4, if_pos (by omega), if_pos (by omega), bt_i s (i + 1) (by omega), bt_i s (i + 2) (by omega), e5]
            simp only [if_pos (show acc.length < 140737488355328 by omega), if_pos (show (0 : Int) ≤ ((i + 2 : Nat) : Int) by omega), if_pos (show ((i + 2 : Nat) : Int) < (s.size : Int) by omega)]
            rfl
          refine (digit_ev s[i + 1]).bind ((digit_ev s[i + 1 + 1]).bind ?_)
          by_cases h4 : hd s[i + 1] < 0
          · rw [if_pos (.inl h4)]; exact Ev.congr (fun k => if_pos h4) (Ev.now _)
          refine Ev.congr (fun k => if_neg h4) ?_
          by_cases h5 : hd s[i + 1 + 1] < 0
          · rw [if_pos (.inr (.inl h5))]; exact Ev.congr (fun k => if_pos h5) (Ev.now _)
          refine Ev.congr (fun k => if_neg h5) ?_
          rw [(hv_int _ _ h4 h5).1]
          refine Ev.congr (fun k => by rw [plainT, Option.bind_some]) ?_
          by_cases h6 : qp (hv s[i + 1] s[i + 1 + 1]) = true
          · rw [if_pos (.inr (.inr h6))]; exact Ev.congr (fun k => if_pos h6) (Ev.now _)
          rw [if_neg (fun h => h.elim h4 (fun h => h.elim h5 h6)), ← so_cons]
          exact Ev.congr (fun k => if_neg h6) (ih (i + 3) (acc ++ [((hv s[i + 1] s[i + 1 + 1]).toNat : Int)]) (by omega) (by omega) (by rw [List.length_append, List.length_singleton]; omega))
def implF (s : ByteArray) (x : List Int) : Bool × ByteArray := fin x (if ql (x.map fun n => UInt8.ofNat n.toNat) = s.data.toList then (true, strOfNums x) else no)
theorem impl_end (s : ByteArray) (acc : List Int) : (if (acc.length : Int) = 0 then (some (false, (⟨#[]⟩ : ByteArray))) else (if (acc.length : Int) > 65536 then (some (false, (⟨#[]⟩ : ByteArray))) else ((impl_Quote.f (strOfNums acc)).bind fun t117 => (if t117.toList = s.toList then (some (true, strOfNums acc)) else (some (false, (⟨#[]⟩ : ByteArray))))))) = some (implF s acc) := by
  unfold implF fin no
  by_cases h1 : (acc.length : Int) = 0
  · rw [if_pos h1, if_pos h1]
  rw [if_neg h1, if_neg h1]
  by_cases h2 : (acc.length : Int) > 65536
  · rw [if_pos h2, if_pos h2]
  rw [if_neg h2, if_neg h2]
  unfold impl_Quote.f qF
  rw [strOfNums_size, if_neg (by omega), if_neg (by omega), Option.bind_some, strOfNums_data, ByteArray.toList_eq s, ByteArray.toList_eq]
  split <;> rfl
theorem impl_loop (s : ByteArray) (hn : s.size ≤ 1048576) : ∀ (m i : Nat) (acc : List Int), s.size - i ≤ m → i ≤ s.size → acc.length ≤ i → Ev (fun k => impl_Unquote.l0 k s acc (i : Int)) (so (implF s) acc (li (s.data.toList.drop i))) := by
  intro m
  induction m with
  | zero =>
    intro i acc hm hi ha
    have e : s.data.toList.drop i = [] := List.drop_eq_nil_of_le (by rw [data_length]; omega)
    rw [e, li]
    refine Ev.step (f := fun _ => some (implF s (acc ++ []))) (fun k => ?_) (Ev.now _)
    simp only [impl_Unquote.l0]
    rw [if_neg (by omega), List.append_nil, impl_end]
  | succ m ih =>
    intro i acc hm hi ha
    by_cases h : i < s.size
    rotate_left
    · exact ih i acc (by omega) hi ha
    have e3 : wrap64 ((i : Int) + 1) = ((i + 1 : Nat) : Int) := by rw [w64 (by omega) (by omega)]; rfl
    have e4 : wrap64 ((i : Int) + 2) = ((i + 2 : Nat) : Int) := by rw [w64 (by omega) (by omega)]; rfl
    have e5 : wrap64 (((i + 2 : Nat) : Int) + 1) = ((i + 3 : Nat) : Int) := by rw [w64 (by omega) (by omega)]; rfl
    rw [drop_at s i h, li_cons]
    by_cases h2 : s[i] = 37
    rotate_left
    · rw [if_neg h2, ← so_cons]
      have hne : ¬ (s[i].toNat : Int) = 37 := fun e => h2 (UInt8.toNat_inj.1 (show s[i].toNat = (37 : UInt8).toNat from (Int.ofNat_inj.1 e : s[i].toNat = 37)))
      refine Ev.step (f := fun k => impl_Unquote.l0 k s (acc ++ [(s[i].toNat : Int)]) ((i + 1 : Nat) : Int)) (fun k => ?_) (ih (i + 1) (acc ++ [(s[i].toNat : Int)]) (by omega) (by omega) (by rw [List.length_append, List.length_singleton]; omega))
      simp only [impl_Unquote.l0]
      rw [if_pos (by omega), if_pos (by omega), bt_i s i h, if_neg hne, if_pos (by omega), e3]
    · rw [if_pos h2]
      have heq : (s[i].toNat : Int) = 37 := by rw [h2]; rfl
      by_cases h3 : i + 2 < s.size
      rotate_left
      · have e7 : liT (s.data.toList.drop (i + 1)) = none := by
          by_cases h4 : i + 1 < s.size
          · rw [drop_at s (i + 1) h4, show s.data.toList.drop (i + 1 + 1) = [] from List.drop_eq_nil_of_le (by rw [data_length]; omega)]; rfl
          · rw [show s.data.toList.drop (i + 1) = [] from List.drop_eq_nil_of_le (by rw [data_length]; omega)]; rfl
        rw [e7]
        refine Ev.step (f := fun _ => some no) (fun k => ?_) (Ev.now _)
        simp only [impl_Unquote.l0]
        rw [if_pos (by omega), if_pos (by omega), bt_i s i h, if_pos heq, if_pos (by rw [e4]; omega)]; rfl
      · rw [drop_at s (i + 1) (by omega), drop_at s (i + 1 + 1) (by omega)]
        simp only [liT]
        have st : ∀ k, impl_Unquote.l0 (k + 1) s acc (i : Int) = if hd s[i + 1] < 0 then some no else if hd s[i + 1 + 1] < 0 then some no else impl_Unquote.l0 k s (acc ++ [(Go.bits .or .i64 (wrap64 (hd s[i + 1] * 16)) (hd s[i + 1 + 1])) % 256]) ((i + 3 : Nat) : Int) := fun k => by
          simp only [impl_Unquote.l0]
          rw [if_pos (by omega), if_pos (by omega), bt_i s i h, if_pos heq, if_neg (by rw [e4]; omega), e3, e4, if_pos (by omega), if_pos (by omega), bt_i s (i + 1) (by omega), bt_i s (i + 2) (by omega), index_is, Option.bind_some, if_pos (by omega), if_pos (by omega), index_is, Option.bind_some, e5, if_pos (show acc.length < 140737488355328 by omega)]
          rfl
        by_cases h4 : hd s[i + 1] < 0
        · rw [if_pos (.inl h4)]; exact Ev.step (f := fun _ => some no) (fun k => by rw [st, if_pos h4]) (Ev.now _)
        by_cases h5 : hd s[i + 1 + 1] < 0
        · rw [if_pos (.inr h5)]; exact Ev.step (f := fun _ => some no) (fun k => by rw [st, if_neg h4, if_pos h5]) (Ev.now _)
        rw [(hv_int _ _ h4 h5).2] at st
        rw [if_neg (fun h => h.elim h4 h5), ← so_cons]
        exact Ev.step (fun k => by rw [st, if_neg h4, if_neg h5]) (ih (i + 3) (acc ++ [((hv s[i + 1] s[i + 1 + 1]).toNat : Int)]) (by omega) (by omega) (by rw [List.length_append, List.length_singleton]; omega))
theorem nums_back (d : List UInt8) : (d.map fun c => (c.toNat : Int)).map (fun n => UInt8.ofNat n.toNat) = d := by
  induction d with
  | nil => rfl
  | cons c r ih => simp only [List.map_cons, ih, Int.toNat_natCast]; congr 1; exact UInt8.ofNat_toNat
/-- What both answer. -/
def uq (s : ByteArray) : Bool × ByteArray := if s.toList = ([37] : List UInt8) then (true, ⟨#[]⟩) else so specF [] (ud s.data.toList)
theorem spec_uq (s : ByteArray) (hn : s.size ≤ 1048576) : Ev (fun k => spec_Unquote.f k s) (uq s) := by
  unfold uq
  by_cases h : s.toList = ([37] : List UInt8)
  · rw [if_pos h]; exact Ev.congr (fun k => by unfold spec_Unquote.f; rw [if_pos h]) (Ev.now _)
  · rw [if_neg h]
    exact Ev.congr (fun k => by unfold spec_Unquote.f; rw [if_neg h]; rfl) (spec_loop s hn s.size 0 [] (by omega) (by omega) (by simp))
theorem impl_uq (s : ByteArray) (hn : s.size ≤ 1048576) : Ev (fun k => impl_Unquote.f k s) (uq s) := by
  unfold uq
  by_cases h : s.toList = ([37] : List UInt8)
  · rw [if_pos h]; exact Ev.congr (fun k => by unfold impl_Unquote.f; rw [if_pos h]) (Ev.now _)
  · rw [if_neg h]
    have := impl_loop s hn s.size 0 [] (by omega) (by omega) (by simp)
    rw [List.drop_zero] at this
    have e : so (implF s) [] (li s.data.toList) = so specF [] (ud s.data.toList) := by
      cases hu : ud s.data.toList with
      | some d =>
        obtain ⟨h1, h2⟩ := ql_ud _ _ d (Nat.le_refl _) hu
        rw [h2]
        simp only [so, List.nil_append, implF, specF, nums_back]
        rw [if_pos h1]
      | none =>
        cases hl : li s.data.toList with
        | none => rfl
        | some d =>
          simp only [so, List.nil_append, implF, nums_back]
          rw [if_neg (fun h => by rw [ud_of _ _ h] at hu; cases hu)]
          unfold fin; split <;> (try rfl); split <;> rfl
    rw [← e]
    exact Ev.congr (fun k => by unfold impl_Unquote.f; rw [if_neg h]; rfl) this
theorem FnExactUnquote : laws_FnExactUnquote.Pure := by
  intro a0 _
  by_cases h : (a0.size : Int) > 1048576
  · exact Ev.rounds (Ev.congr (fun k => by unfold laws_FnExactUnquote.f; rw [if_pos h]) (Ev.now true))
  refine Ev.rounds (Ev.congr (fun k => by unfold laws_FnExactUnquote.f; rw [if_neg h]) ?_)
  refine (spec_uq a0 (by omega)).bind ((impl_uq a0 (by omega)).bind ?_)
  refine Ev.congr (f := fun _ => some true) (fun k => ?_) (Ev.now _)
  unfold laws_eqUnquoted.f
  rw [if_neg (by simp), if_pos rfl]; rfl
end Go.Proofs.Ytikandlenlhdkaa.Pure
