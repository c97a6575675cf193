/- FnExactParseLine: at every line the program's ParseLine answers as the reference's. -/
import Derived.Test.YtkehfdadplpaeaaDoorPFnExactParseLinex12
import Derived.Test.YtkehfdadplpaeaaDoorVPLPlNum
import Derived.Test.YtkehfdadplpaeaaDoorVPLHlp2
import Derived.Lib.ItoaLen
namespace Go.Proofs.YtkehfdadplpaeaaDoor.Pure
open Go.RowKit Go.Proofs.YtkehfdadplpaeaaDoor.PFnExactParseLine Go.Proofs.YtkehfdadplpaeaaDoorW.PrintWords Go.Proofs.YtkehfdadplpaeaaDoorW.PrintLast Go.Proofs.YtkehfdadplpaeaaDoorW.PrintMore Go.Proofs.YtkehfdadplpaeaaDoor.Hlp Go.Proofs.YtkehfdadplpaeaaDoor.PlN Go.Proofs.YtkehfdadplpaeaaDoor.Qt
set_option linter.unusedVariables false
set_option linter.unusedSectionVars false
set_option linter.unusedSimpArgs false
namespace PL
/-- The value of a digit; -1: it is none. -/
def hexL : List UInt8 := [48, 49, 50, 51, 52, 53, 54, 55, 56, 57, 97, 98, 99, 100, 101, 102]
def hd (b : UInt8) : Int := Lib.indexByte hexL b
def hv (a b : UInt8) : UInt8 := UInt8.ofNat ((hd a * 16 + hd b).toNat)
/-- The bytes that a text says in the one form; none: it is not in it. -/
def ud : List UInt8 → Option (List UInt8)
  | [] => some []
  | c :: r => if qp c = true then (ud r).map (c :: ·) else if c = 37 then
      (match r with
      | a :: b :: r' => if hd a < 0 ∨ hd b < 0 ∨ qp (hv a b) = true then none else (ud r').map (hv a b :: ·)
      | _ => none) else none
/-- The bytes that a text says, in whatever form. -/
def li : List UInt8 → Option (List UInt8)
  | [] => some []
  | c :: r => if c = 37 then
      (match r with
      | a :: b :: r' => if hd a < 0 ∨ hd b < 0 then none else (li r').map (hv a b :: ·)
      | _ => none) else (li r).map (c :: ·)
def udT (r : List UInt8) : Option (List UInt8) := match r with | a :: b :: r' => if hd a < 0 ∨ hd b < 0 ∨ qp (hv a b) = true then none else (ud r').map (hv a b :: ·) | _ => none
def liT (r : List UInt8) : Option (List UInt8) := match r with | a :: b :: r' => if hd a < 0 ∨ hd b < 0 then none else (li r').map (hv a b :: ·) | _ => none
theorem ud_cons (c : UInt8) (r : List UInt8) : ud (c :: r) = if qp c = true then (ud r).map (c :: ·) else if c = 37 then udT r else none := by
  match r with
  | [] => simp [ud, udT]
  | [a] => simp [ud, udT]
  | a :: b :: r' => rw [ud]; rfl
theorem li_cons (c : UInt8) (r : List UInt8) : li (c :: r) = if c = 37 then liT r else (li r).map (c :: ·) := by
  match r with
  | [] => simp [li, liT]
  | [a] => simp [li, liT]
  | a :: b :: r' => rw [li]; rfl
theorem hd_facts : ∀ b : UInt8, hd b = -1 ∨ (0 ≤ hd b ∧ hd b < 16 ∧ hx (hd b).toNat = b) := by
  have : ∀ n : Fin 256, hd (UInt8.ofNat n.1) = -1 ∨ (0 ≤ hd (UInt8.ofNat n.1) ∧ hd (UInt8.ofNat n.1) < 16 ∧ hx (hd (UInt8.ofNat n.1)).toNat = UInt8.ofNat n.1) := by decide +kernel
  intro b
  have h := this ⟨b.toNat, UInt8.toNat_lt b⟩
  rwa [show UInt8.ofNat b.toNat = b from UInt8.ofNat_toNat] at h
theorem hd_hx : ∀ n : Nat, n < 16 → hd (hx n) = (n : Int) := by decide +kernel
theorem qp37 : ¬ qp 37 = true := by decide
theorem qp_ne (c : UInt8) (h : qp c = true) : c ≠ 37 := fun e => qp37 (e ▸ h)
theorem hv_hx (c : UInt8) : hv (hx (c.toNat / 16)) (hx (c.toNat % 16)) = c := by
  have hc : c.toNat < 256 := UInt8.toNat_lt c
  unfold hv
  rw [hd_hx _ (by omega), hd_hx _ (by omega), show (((c.toNat / 16 : Nat) : Int) * 16 + ((c.toNat % 16 : Nat) : Int)).toNat = c.toNat by omega]
  exact UInt8.ofNat_toNat
theorem ud_ql : ∀ d : List UInt8, ud (ql d) = some d
  | [] => rfl
  | c :: d => by
    have ih := ud_ql d
    have hc : c.toNat < 256 := UInt8.toNat_lt c
    have e : ql (c :: d) = qb c ++ ql d := rfl
    rw [e]
    unfold qb
    by_cases h : qp c = true
    · rw [if_pos h]
      show ud (c :: ql d) = _
      rw [ud_cons, if_pos h, ih]; rfl
    · rw [if_neg h]
      show ud (37 :: hx (c.toNat / 16) :: hx (c.toNat % 16) :: ql d) = _
      rw [ud_cons, if_neg qp37, if_pos rfl]
      simp only [udT, hv_hx, ih, hd_hx _ (show c.toNat / 16 < 16 by omega), hd_hx _ (show c.toNat % 16 < 16 by omega)]
      rw [if_neg (by intro h1; rcases h1 with h1 | h1 | h1 <;> first | omega | exact h h1)]; rfl
theorem ql_ud : ∀ (m : Nat) (T d : List UInt8), T.length ≤ m → ud T = some d → ql d = T ∧ li T = some d := by
  intro m
  induction m with
  | zero =>
    intro T d hm h
    obtain rfl : T = [] := List.eq_nil_of_length_eq_zero (by omega)
    rw [ud] at h; cases h; exact ⟨rfl, rfl⟩
  | succ m ih =>
    intro T d hm h
    cases T with
    | nil => rw [ud] at h; cases h; exact ⟨rfl, rfl⟩
    | cons c r =>
      rw [ud_cons] at h
      by_cases h1 : qp c = true
      · rw [if_pos h1] at h
        obtain ⟨d', h2, rfl⟩ := Option.map_eq_some_iff.1 h
        obtain ⟨e1, e2⟩ := ih r d' (by simpa using hm) h2
        refine ⟨?_, ?_⟩
        · show qb c ++ ql d' = _
          unfold qb; rw [if_pos h1, e1]; rfl
        · rw [li_cons, if_neg (qp_ne c h1), e2]; rfl
      · rw [if_neg h1] at h
        by_cases h2 : c = 37
        rotate_left
        · rw [if_neg h2] at h; cases h
        subst h2
        rw [if_pos rfl] at h
        match r, h with
        | [], h => cases h
        | [_], h => cases h
        | a :: b :: r', h =>
          simp only [udT] at h
          by_cases h3 : hd a < 0 ∨ hd b < 0 ∨ qp (hv a b) = true
          · rw [if_pos h3] at h; cases h
          rw [if_neg h3] at h
          obtain ⟨d', h4, rfl⟩ := Option.map_eq_some_iff.1 h
          obtain ⟨e1, e2⟩ := ih r' d' (by simp at hm; omega) h4
          have ha := (hd_facts a).resolve_left (fun e => h3 (.inl (by omega)))
          have hb := (hd_facts b).resolve_left (fun e => h3 (.inr (.inl (by omega))))
          have hvn : (hv a b).toNat = (hd a * 16 + hd b).toNat := by
            unfold hv
            rw [UInt8.toNat_ofNat']; omega
          refine ⟨?_, ?_⟩
          · show qb (hv a b) ++ ql d' = _
            unfold qb
            rw [if_neg (fun h => h3 (.inr (.inr h))), hvn, e1, show (hd a * 16 + hd b).toNat / 16 = (hd a).toNat by omega, show (hd a * 16 + hd b).toNat % 16 = (hd b).toNat by omega, ha.2.2, hb.2.2]; rfl
          · rw [li_cons, if_pos rfl]
            simp only [liT]
            rw [if_neg (fun h => h3 (h.elim .inl (fun h => .inr (.inl h)))), e2]; rfl
/-- A loose reading whose quoting is the text is the one reading. -/
theorem ud_of (T d : List UInt8) (h : ql d = T) : ud T = some d := by rw [← h]; exact ud_ql d
theorem drop_at (s : ByteArray) (i : Nat) (h : i < s.size) : s.data.toList.drop i = s[i] :: s.data.toList.drop (i + 1) := by
  rw [List.drop_eq_getElem_cons (by simpa using h)]; rfl
theorem bt_i (s : ByteArray) (i : Nat) (h : i < s.size) : bt s (i : Int) = (s[i].toNat : Int) := (bt_at s (i : Int) (by simpa using h)).symm
theorem plainT (c : UInt8) : spec_l14Plain.f (c.toNat : Int) = some (qp c) := by
  unfold qp spec_l14Plain.f
  by_cases h1 : 33 ≤ c.toNat
  · rw [if_pos (by omega), decide_eq_true h1]
    by_cases h2 : c.toNat ≤ 126
    · rw [if_pos (by omega), decide_eq_true h2]
      by_cases h3 : c.toNat = 37
      · rw [h3]; rfl
      · rw [decide_eq_true h3, bne_iff_ne.mpr (by omega : (c.toNat : Int) ≠ 37)]; rfl
    · rw [if_neg (by omega), decide_eq_false h2]; rfl
  · rw [if_neg (by omega), decide_eq_false h1]; rfl
theorem digit_ev (b : UInt8) : Ev (fun k => spec_l14Digit.f k (b.toNat : Int)) (hd b) := by
  have : ∀ n : Fin 256, spec_l14Digit.f 18 (((UInt8.ofNat n.1).toNat : Nat) : Int) = some (hd (UInt8.ofNat n.1)) := by decide +kernel
  have h := this ⟨b.toNat, UInt8.toNat_lt b⟩
  rw [show UInt8.ofNat b.toNat = b from UInt8.ofNat_toNat] at h
  exact Ev.of (spec_l14Digit.mono _) h
theorem index_is (b : UInt8) : strings_IndexByte.f (⟨#[48, 49, 50, 51, 52, 53, 54, 55, 56, 57, 97, 98, 99, 100, 101, 102]⟩ : ByteArray) (b.toNat : Int) = some (hd b) := by
  unfold strings_IndexByte.f hd
  rw [Int.toNat_natCast, show b.toNat.toUInt8 = b from UInt8.ofNat_toNat]; rfl
def no : Bool × ByteArray := (false, ⟨#[]⟩)
def fin (x : List Int) (y : Bool × ByteArray) : Bool × ByteArray := if (x.length : Int) = 0 then no else if (x.length : Int) > 65536 then no else y
/-- What the bytes so far and those that the rest says come to. -/
def so (F : List Int → Bool × ByteArray) (acc : List Int) : Option (List UInt8) → Bool × ByteArray
  | none => no
  | some d => F (acc ++ d.map fun c => (c.toNat : Int))
theorem so_cons (F : List Int → Bool × ByteArray) (acc : List Int) (c : UInt8) (o : Option (List UInt8)) : so F (acc ++ [(c.toNat : Int)]) o = so F acc (o.map (c :: ·)) := by
  cases o with
  | none => rfl
  | some d => simp [so]
theorem hv_int (a b : UInt8) (ha : ¬ hd a < 0) (hb : ¬ hd b < 0) : (wrap64 ((wrap64 (hd a * 16)) + hd b)) % 256 = ((hv a b).toNat : Int) ∧ (Go.bits .or .i64 (wrap64 (hd a * 16)) (hd b)) % 256 = ((hv a b).toNat : Int) := by
  have h1 := (hd_facts a).resolve_left (by omega)
  have h2 := (hd_facts b).resolve_left (by omega)
  have hvn : (hv a b).toNat = (hd a * 16 + hd b).toNat := by
    unfold hv
    rw [UInt8.toNat_ofNat']; omega
  rw [hvn]
  generalize hd a = x at *
  generalize hd b = y at *
  obtain ⟨n, rfl⟩ := Int.eq_ofNat_of_zero_le h1.1
  obtain ⟨m, rfl⟩ := Int.eq_ofNat_of_zero_le h2.1
  have key : ∀ n : Fin 16, ∀ m : Fin 16, (wrap64 ((wrap64 (((n.1 : Nat) : Int) * 16)) + ((m.1 : Nat) : Int))) % 256 = (((((n.1 : Nat) : Int) * 16 + ((m.1 : Nat) : Int)).toNat : Nat) : Int) ∧ (Go.bits .or .i64 (wrap64 (((n.1 : Nat) : Int) * 16)) ((m.1 : Nat) : Int)) % 256 = (((((n.1 : Nat) : Int) * 16 + ((m.1 : Nat) : Int)).toNat : Nat) : Int) := by decide +kernel
  exact key ⟨n, by omega⟩ ⟨m, by omega⟩
def specF (x : List Int) : Bool × ByteArray := fin x (true, strOfNums x)
theorem spec_loop (s : ByteArray) (hn : s.size ≤ 1048576) : ∀ (m i : Nat) (acc : List Int), s.size - i ≤ m → i ≤ s.size → acc.length ≤ i → Ev (fun k => spec_Unquote.l0 k s acc (i : Int)) (so specF acc (ud (s.data.toList.drop i))) := by
  have stop : ∀ (i : Int) (acc : List Int), Ev (fun k => spec_Unquote.j1 k s acc i true) no := fun i acc => Ev.step (f := fun _ => some no) (fun k => by simp only [spec_Unquote.j1]; rw [if_pos trivial]; rfl) (Ev.now _)
  intro m
  induction m with
  | zero =>
    intro i acc hm hi ha
    have e : s.data.toList.drop i = [] := List.drop_eq_nil_of_le (by rw [data_length]; omega)
    rw [e, ud]
    refine Ev.step (f := fun _ => some (specF (acc ++ []))) (fun k => ?_) (Ev.now _)
    simp only [spec_Unquote.l0]
    rw [if_neg (by omega), List.append_nil]
    unfold specF fin no
    split <;> (try rfl); split <;> rfl
  | succ m ih =>
    intro i acc hm hi ha
    by_cases h : i < s.size
    rotate_left
    · exact ih i acc (by omega) hi ha
    have e3 : wrap64 ((i : Int) + 1) = ((i + 1 : Nat) : Int) := by rw [w64 (by omega) (by omega)]; rfl
    have e4 : wrap64 ((i : Int) + 2) = ((i + 2 : Nat) : Int) := by rw [w64 (by omega) (by omega)]; rfl
    have e5 : wrap64 (((i + 2 : Nat) : Int) + 1) = ((i + 3 : Nat) : Int) := by rw [w64 (by omega) (by omega)]; rfl
    rw [drop_at s i h, ud_cons]
    by_cases h1 : qp s[i] = true
    · rw [if_pos h1, ← so_cons]
      refine Ev.step (f := fun k => spec_Unquote.l0 k s (acc ++ [(s[i].toNat : Int)]) ((i + 1 : Nat) : Int)) (fun k => ?_) (ih (i + 1) (acc ++ [(s[i].toNat : Int)]) (by omega) (by omega) (by rw [List.length_append, List.length_singleton]; omega))
      simp only [spec_Unquote.l0]
      rw [if_pos (by omega), if_pos (by omega), bt_i s i h, plainT, Option.bind_some, if_pos h1, if_pos (by omega), e3]
    · rw [if_neg h1]
      by_cases h2 : s[i] = 37
      rotate_left
      · rw [if_neg h2]
        have hne : ¬ (s[i].toNat : Int) = 37 := fun e => h2 (UInt8.toNat_inj.1 (show s[i].toNat = (37 : UInt8).toNat from (Int.ofNat_inj.1 e : s[i].toNat = 37)))
        refine Ev.step (f := fun k => spec_Unquote.j1 k s acc (i : Int) true) (fun k => ?_) (stop _ _)
        simp only [spec_Unquote.l0]
        rw [if_pos (by omega), if_pos (by omega), bt_i s i h, plainT, Option.bind_some, if_neg h1, if_neg hne]
      · rw [if_pos h2]
        have heq : (s[i].toNat : Int) = 37 := by rw [h2]; rfl
        by_cases h3 : i + 2 < s.size
        rotate_left
        · have e6 : decide ((wrap64 ((i : Int) + 2)) ≥ (s.size : Int)) = true := decide_eq_true (by rw [e4]; omega)
          have e7 : udT (s.data.toList.drop (i + 1)) = none := by
            by_cases h4 : i + 1 < s.size
            · rw [drop_at s (i + 1) h4, show s.data.toList.drop (i + 1 + 1) = [] from List.drop_eq_nil_of_le (by rw [data_length]; omega)]; rfl
            · rw [show s.data.toList.drop (i + 1) = [] from List.drop_eq_nil_of_le (by rw [data_length]; omega)]; rfl
          rw [e7]
          refine Ev.step (f := fun k => spec_Unquote.j1 k s acc (i : Int) true) (fun k => ?_) (stop _ _)
          simp only [spec_Unquote.l0]
          rw [if_pos (by omega), if_pos (by omega), bt_i s i h, plainT, Option.bind_some, if_neg h1, if_pos heq, e6]
        · have e6 : decide ((wrap64 ((i : Int) + 2)) ≥ (s.size : Int)) = false := decide_eq_false (by rw [e4]; omega)
          rw [drop_at s (i + 1) (by omega), drop_at s (i + 1 + 1) (by omega)]
          simp only [udT]
          refine Ev.step (f := fun k => spec_Unquote.j1 k s acc (i : Int) false) (fun k => ?_) ?_
          · simp only [spec_Unquote.l0]
            rw [if_pos (by omega), if_pos (by omega), bt_i s i h, plainT, Option.bind_some, if_neg h1, if_pos heq, e6]
          refine Ev.step (f := fun k => (spec_l14Digit.f k (s[i + 1].toNat : Int)).bind fun t110 => (spec_l14Digit.f k (s[i + 1 + 1].toNat : Int)).bind fun t111 => (if t110 < 0 then some no else (if t111 < 0 then some no else ((spec_l14Plain.f ((wrap64 ((wrap64 (t110 * 16)) + t111)) % 256)).bind fun t112 => (if t112 = true then some no else spec_Unquote.l0 k s (acc ++ [(wrap64 ((wrap64 (t110 * 16)) + t111)) % 256]) ((i + 3 : Nat) : Int)))))) (fun k => ?_) ?_
          · simp only [spec_Unquote.j1]
            rw [if_neg (by simp), e3, e4, if_pos (by omega), if_pos (by omega), bt_i s (i + 1) (by omega), bt_i s (i + 2) (by omega), e5]
            simp only [if_pos (show acc.length < 140737488355328 by omega), if_pos (show (0 : Int) ≤ ((i + 2 : Nat) : Int) by omega), if_pos (show ((i + 2 : Nat) : Int) < (s.size : Int) by omega)]
            rfl
          refine (digit_ev s[i + 1]).bind ((digit_ev s[i + 1 + 1]).bind ?_)
          by_cases h4 : hd s[i + 1] < 0
          · rw [if_pos (.inl h4)]; exact Ev.congr (fun k => if_pos h4) (Ev.now _)
          refine Ev.congr (fun k => if_neg h4) ?_
          by_cases h5 : hd s[i + 1 + 1] < 0
          · rw [if_pos (.inr (.inl h5))]; exact Ev.congr (fun k => if_pos h5) (Ev.now _)
          refine Ev.congr (fun k => if_neg h5) ?_
          rw [(hv_int _ _ h4 h5).1]
          refine Ev.congr (fun k => by rw [plainT, Option.bind_some]) ?_
          by_cases h6 : qp (hv s[i + 1] s[i + 1 + 1]) = true
          · rw [if_pos (.inr (.inr h6))]; exact Ev.congr (fun k => if_pos h6) (Ev.now _)
          rw [if_neg (fun h => h.elim h4 (fun h => h.elim h5 h6)), ← so_cons]
          exact Ev.congr (fun k => if_neg h6) (ih (i + 3) (acc ++ [((hv s[i + 1] s[i + 1 + 1]).toNat : Int)]) (by omega) (by omega) (by rw [List.length_append, List.length_singleton]; omega))
def implF (s : ByteArray) (x : List Int) : Bool × ByteArray := fin x (if ql (x.map fun n => UInt8.ofNat n.toNat) = s.data.toList then (true, strOfNums x) else no)
theorem impl_end (s : ByteArray) (acc : List Int) : (if (acc.length : Int) = 0 then (some (false, (⟨#[]⟩ : ByteArray))) else (if (acc.length : Int) > 65536 then (some (false, (⟨#[]⟩ : ByteArray))) else ((impl_Quote.f (strOfNums acc)).bind fun t117 => (if t117.toList = s.toList then (some (true, strOfNums acc)) else (some (false, (⟨#[]⟩ : ByteArray))))))) = some (implF s acc) := by
  unfold implF fin no
  by_cases h1 : (acc.length : Int) = 0
  · rw [if_pos h1, if_pos h1]
  rw [if_neg h1, if_neg h1]
  by_cases h2 : (acc.length : Int) > 65536
  · rw [if_pos h2, if_pos h2]
  rw [if_neg h2, if_neg h2]
  unfold impl_Quote.f qF
  rw [strOfNums_size, if_neg (by omega), if_neg (by omega), Option.bind_some, strOfNums_data, ByteArray.toList_eq s, ByteArray.toList_eq]
  split <;> rfl
theorem impl_loop (s : ByteArray) (hn : s.size ≤ 1048576) : ∀ (m i : Nat) (acc : List Int), s.size - i ≤ m → i ≤ s.size → acc.length ≤ i → Ev (fun k => impl_Unquote.l0 k s acc (i : Int)) (so (implF s) acc (li (s.data.toList.drop i))) := by
  intro m
  induction m with
  | zero =>
    intro i acc hm hi ha
    have e : s.data.toList.drop i = [] := List.drop_eq_nil_of_le (by rw [data_length]; omega)
    rw [e, li]
    refine Ev.step (f := fun _ => some (implF s (acc ++ []))) (fun k => ?_) (Ev.now _)
    simp only [impl_Unquote.l0]
    rw [if_neg (by omega), List.append_nil, impl_end]
  | succ m ih =>
    intro i acc hm hi ha
    by_cases h : i < s.size
    rotate_left
    · exact ih i acc (by omega) hi ha
    have e3 : wrap64 ((i : Int) + 1) = ((i + 1 : Nat) : Int) := by rw [w64 (by omega) (by omega)]; rfl
    have e4 : wrap64 ((i : Int) + 2) = ((i + 2 : Nat) : Int) := by rw [w64 (by omega) (by omega)]; rfl
    have e5 : wrap64 (((i + 2 : Nat) : Int) + 1) = ((i + 3 : Nat) : Int) := by rw [w64 (by omega) (by omega)]; rfl
    rw [drop_at s i h, li_cons]
    by_cases h2 : s[i] = 37
    rotate_left
    · rw [if_neg h2, ← so_cons]
      have hne : ¬ (s[i].toNat : Int) = 37 := fun e => h2 (UInt8.toNat_inj.1 (show s[i].toNat = (37 : UInt8).toNat from (Int.ofNat_inj.1 e : s[i].toNat = 37)))
      refine Ev.step (f := fun k => impl_Unquote.l0 k s (acc ++ [(s[i].toNat : Int)]) ((i + 1 : Nat) : Int)) (fun k => ?_) (ih (i + 1) (acc ++ [(s[i].toNat : Int)]) (by omega) (by omega) (by rw [List.length_append, List.length_singleton]; omega))
      simp only [impl_Unquote.l0]
      rw [if_pos (by omega), if_pos (by omega), bt_i s i h, if_neg hne, if_pos (by omega), e3]
    · rw [if_pos h2]
      have heq : (s[i].toNat : Int) = 37 := by rw [h2]; rfl
      by_cases h3 : i + 2 < s.size
      rotate_left
      · have e7 : liT (s.data.toList.drop (i + 1)) = none := by
          by_cases h4 : i + 1 < s.size
          · rw [drop_at s (i + 1) h4, show s.data.toList.drop (i + 1 + 1) = [] from List.drop_eq_nil_of_le (by rw [data_length]; omega)]; rfl
          · rw [show s.data.toList.drop (i + 1) = [] from List.drop_eq_nil_of_le (by rw [data_length]; omega)]; rfl
        rw [e7]
        refine Ev.step (f := fun _ => some no) (fun k => ?_) (Ev.now _)
        simp only [impl_Unquote.l0]
        rw [if_pos (by omega), if_pos (by omega), bt_i s i h, if_pos heq, if_pos (by rw [e4]; omega)]; rfl
      · rw [drop_at s (i + 1) (by omega), drop_at s (i + 1 + 1) (by omega)]
        simp only [liT]
        have st : ∀ k, impl_Unquote.l0 (k + 1) s acc (i : Int) = if hd s[i + 1] < 0 then some no else if hd s[i + 1 + 1] < 0 then some no else impl_Unquote.l0 k s (acc ++ [(Go.bits .or .i64 (wrap64 (hd s[i + 1] * 16)) (hd s[i + 1 + 1])) % 256]) ((i + 3 : Nat) : Int) := fun k => by
          simp only [impl_Unquote.l0]
          rw [if_pos (by omega), if_pos (by omega), bt_i s i h, if_pos heq, if_neg (by rw [e4]; omega), e3, e4, if_pos (by omega), if_pos (by omega), bt_i s (i + 1) (by omega), bt_i s (i + 2) (by omega), index_is, Option.bind_some, if_pos (by omega), if_pos (by omega), index_is, Option.bind_some, e5, if_pos (show acc.length < 140737488355328 by omega)]
          rfl
        by_cases h4 : hd s[i + 1] < 0
        · rw [if_pos (.inl h4)]; exact Ev.step (f := fun _ => some no) (fun k => by rw [st, if_pos h4]) (Ev.now _)
        by_cases h5 : hd s[i + 1 + 1] < 0
        · rw [if_pos (.inr h5)]; exact Ev.step (f := fun _ => some no) (fun k => by rw [st, if_neg h4, if_pos h5]) (Ev.now _)
        rw [(hv_int _ _ h4 h5).2] at st
        rw [if_neg (fun h => h.elim h4 h5), ← so_cons]
        exact Ev.step (fun k => by rw [st, if_neg h4, if_neg h5]) (ih (i + 3) (acc ++ [((hv s[i + 1] s[i + 1 + 1]).toNat : Int)]) (by omega) (by omega) (by rw [List.length_append, List.length_singleton]; omega))
theorem nums_back (d : List UInt8) : (d.map fun c => (c.toNat : Int)).map (fun n => UInt8.ofNat n.toNat) = d := by
  induction d with
  | nil => rfl
  | cons c r ih => simp only [List.map_cons, ih, Int.toNat_natCast]; congr 1; exact UInt8.ofNat_toNat
/-- What both answer. -/
def uq (s : ByteArray) : Bool × ByteArray := if s.toList = ([37] : List UInt8) then (true, ⟨#[]⟩) else so specF [] (ud s.data.toList)
theorem spec_uq (s : ByteArray) (hn : s.size ≤ 1048576) : Ev (fun k => spec_Unquote.f k s) (uq s) := by
  unfold uq
  by_cases h : s.toList = ([37] : List UInt8)
  · rw [if_pos h]; exact Ev.congr (fun k => by unfold spec_Unquote.f; rw [if_pos h]) (Ev.now _)
  · rw [if_neg h]
    exact Ev.congr (fun k => by unfold spec_Unquote.f; rw [if_neg h]; rfl) (spec_loop s hn s.size 0 [] (by omega) (by omega) (by simp))
theorem impl_uq (s : ByteArray) (hn : s.size ≤ 1048576) : Ev (fun k => impl_Unquote.f k s) (uq s) := by
  unfold uq
  by_cases h : s.toList = ([37] : List UInt8)
  · rw [if_pos h]; exact Ev.congr (fun k => by unfold impl_Unquote.f; rw [if_pos h]) (Ev.now _)
  · rw [if_neg h]
    have := impl_loop s hn s.size 0 [] (by omega) (by omega) (by simp)
    rw [List.drop_zero] at this
    have e : so (implF s) [] (li s.data.toList) = so specF [] (ud s.data.toList) := by
      cases hu : ud s.data.toList with
      | some d =>
        obtain ⟨h1, h2⟩ := ql_ud _ _ d (Nat.le_refl _) hu
        rw [h2]
        simp only [so, List.nil_append, implF, specF, nums_back]
        rw [if_pos h1]
      | none =>
        cases hl : li s.data.toList with
        | none => rfl
        | some d =>
          simp only [so, List.nil_append, implF, nums_back]
          rw [if_neg (fun h => by rw [ud_of _ _ h] at hu; cases hu)]
          unfold fin; split <;> (try rfl); split <;> rfl
    rw [← e]
    exact Ev.congr (fun k => by unfold impl_Unquote.f; rw [if_neg h]; rfl) this
theorem len_size (s : ByteArray) : s.data.toList.length = s.size := by simp
theorem head_at (s : ByteArray) (h : 0 < s.size) : s.data.toList.head? = some s[0] := by
  have := drop_at s 0 h
  rw [List.drop_zero] at this
  rw [this]; rfl
theorem tail_ext (s : ByteArray) : (s.extract 1 s.size).data.toList = s.data.toList.tail := by
  rw [ByteArray.data_extract]
  simp only [Array.toList_extract, List.extract_eq_take_drop, List.drop_one]
  rw [List.take_of_length_le]
  simp
theorem tl_size (s : ByteArray) : (s.extract 1 s.size).size = s.size - 1 := by rw [ByteArray.size_extract]; omega
theorem bt0_45 (s : ByteArray) (h : 0 < s.size) : (bt s 0 == 45) = decide (s.data.toList.head? = some 45) := by
  rw [head_at s h, show bt s 0 = (s[0].toNat : Int) from bt_i s 0 h]
  by_cases c : s[0] = 45
  · rw [c]; rfl
  · rw [decide_eq_false (fun e => c (Option.some.inj e)), beq_eq_false_iff_ne.mpr]
    intro e; exact c (UInt8.toNat_inj.1 (show s[0].toNat = (45 : UInt8).toNat from (Int.ofNat_inj.1 e : s[0].toNat = 45)))
theorem bt0_48 (s : ByteArray) (h : 0 < s.size) : (bt s 0 == 48) = decide (s.data.toList.head? = some 48) := by
  rw [head_at s h, show bt s 0 = (s[0].toNat : Int) from bt_i s 0 h]
  by_cases c : s[0] = 48
  · rw [c]; rfl
  · rw [decide_eq_false (fun e => c (Option.some.inj e)), beq_eq_false_iff_ne.mpr]
    intro e; exact c (UInt8.toNat_inj.1 (show s[0].toNat = (48 : UInt8).toNat from (Int.ofNat_inj.1 e : s[0].toNat = 48)))
theorem tl_list (s : ByteArray) : s.toList = s.data.toList := ByteArray.toList_eq s
/-- A number as text. -/
def D (v : Int) : ByteArray := ⟨(Lib.itoa v).toArray⟩
def Rg (v : Int) : Prop := -9223372036854775808 ≤ v ∧ v ≤ 9223372036854775807
theorem D_len {v : Int} (h : Rg v) : (D v).size ≤ 21 := by
  have := Lib.itoa_length_le v h.1 h.2
  show (Lib.itoa v).toArray.size ≤ 21
  rw [List.size_toArray]; omega
theorem D_app (a b : List UInt8) : (⟨a.toArray⟩ : ByteArray) ++ ⟨b.toArray⟩ = ⟨(a ++ b).toArray⟩ := by
  apply ByteArray.ext; simp
theorem D_small (n : Nat) (h : n < 10) : strOfNums [(wrap64 (48 + (n : Int))) % 256] = D n := by
  have : ∀ n : Fin 10, strOfNums [(wrap64 (48 + (((n.1 : Nat)) : Int))) % 256] = (⟨#[UInt8.ofNat (48 + n.1)]⟩ : ByteArray) := by decide +kernel
  rw [this ⟨n, h⟩]
  unfold D
  rw [Lib.itoa_nonneg, Lib.decDigits, dif_pos h]
theorem D_big (n : Nat) (h : ¬ n < 10) : D n = D ((n / 10 : Nat) : Int) ++ D ((n % 10 : Nat) : Int) := by
  unfold D
  rw [D_app, Lib.itoa_nonneg, Lib.itoa_nonneg, Lib.itoa_nonneg]
  rw [Lib.decDigits, dif_neg h, Lib.decDigits_one (i := n % 10) (by omega)]
theorem D_neg_small (n : Nat) (h1 : 1 ≤ n) : D (-(n : Int)) = (⟨#[45]⟩ : ByteArray) ++ D n := by
  unfold D
  rw [Lib.itoa_neg n h1, Lib.itoa_nonneg]
  exact (D_app [45] (Lib.decDigits n)).symm
theorem D_neg_big (n : Nat) (h : ¬ n < 10) : D (-(n : Int)) = D (-((n / 10 : Nat) : Int)) ++ D ((n % 10 : Nat) : Int) := by
  unfold D
  rw [D_app, Lib.itoa_neg n (by omega), Lib.itoa_neg (n / 10) (by omega), Lib.itoa_nonneg]
  rw [Lib.decDigits, dif_neg h, Lib.decDigits_one (i := n % 10) (by omega)]
  rfl
theorem dec_nat : ∀ (m n : Nat), n ≤ m → (n : Int) ≤ 9223372036854775808 → Rg (n : Int) → Ev (fun k => spec_l14Dec.f k (n : Int)) (D n) := by
  intro m
  induction m with
  | zero =>
    intro n hn _ hr
    obtain rfl : n = 0 := by omega
    exact Ev.step (f := fun _ => some (D ((0 : Nat) : Int))) (fun k => by simp only [spec_l14Dec.f]; rw [if_neg (by omega), if_pos (by omega), D_small 0 (by omega)]) (Ev.now _)
  | succ m ih =>
    intro n hn hb hr
    by_cases h : n < 10
    · exact Ev.step (f := fun _ => some (D (n : Int))) (fun k => by simp only [spec_l14Dec.f]; rw [if_neg (by omega), if_pos (by omega), D_small n h]) (Ev.now _)
    · have e1 : wrap64 (Int.tdiv (n : Int) 10) = ((n / 10 : Nat) : Int) := by
        rw [Int.tdiv_eq_ediv_of_nonneg (by omega), w64 (by have := hr.2; omega) (by have := hr.2; omega)]; omega
      have e2 : Int.tmod (n : Int) 10 = ((n % 10 : Nat) : Int) := by rw [Int.tmod_eq_emod_of_nonneg (by omega)]; omega
      have r1 : Rg ((n / 10 : Nat) : Int) := ⟨by omega, by have := hr.2; omega⟩
      have r2 : Rg ((n % 10 : Nat) : Int) := ⟨by omega, by omega⟩
      have l1 := D_len r1
      have l2 := D_len r2
      refine Ev.step (f := fun k => (spec_l14Dec.f k ((n / 10 : Nat) : Int)).bind fun t111 => ((spec_l14Dec.f k ((n % 10 : Nat) : Int)).bind fun t112 => (if t111.size + t112.size ≤ 9223372036854775807 then (some (t111 ++ t112)) else (none)))) (fun k => ?_) ?_
      · simp only [spec_l14Dec.f]
        rw [if_neg (by omega), if_neg (by omega), e1, e2]
      · refine (ih (n / 10) (by omega) (by omega) r1).bind ((ih (n % 10) (by omega) (by omega) r2).bind ?_)
        rw [if_pos (by omega), ← D_big n h]
        exact Ev.now _
theorem dec_ev (v : Int) (hr : Rg v) : Ev (fun k => spec_l14Dec.f k v) (D v) := by
  by_cases hv : 0 ≤ v
  · obtain ⟨n, rfl⟩ := Int.eq_ofNat_of_zero_le hv
    exact dec_nat n n (Nat.le_refl _) (by have := hr.2; omega) hr
  have key : ∀ (m n : Nat), n ≤ m → 1 ≤ n → Rg (-(n : Int)) → Ev (fun k => spec_l14Dec.f k (-(n : Int))) (D (-(n : Int))) := by
    intro m
    induction m with
    | zero => intro n h1 h2; omega
    | succ m ih =>
      intro n hn h1 hr
      by_cases h : n < 10
      · have e1 : wrap64 (-(-(n : Int))) = (n : Int) := by rw [w64 (by omega) (by omega)]; omega
        have r1 : Rg (n : Int) := ⟨by omega, by omega⟩
        have l1 := D_len r1
        refine Ev.step (f := fun k => (spec_l14Dec.f k (n : Int)).bind fun t107 => (if 1 + t107.size ≤ 9223372036854775807 then (some ((⟨#[45]⟩ : ByteArray) ++ t107)) else (none))) (fun k => ?_) ?_
        · simp only [spec_l14Dec.f]
          rw [if_pos (by omega), if_neg (by omega), e1]
        · refine (dec_nat n n (Nat.le_refl _) (by omega) r1).bind ?_
          rw [if_pos (by omega), ← D_neg_small n h1]
          exact Ev.now _
      · have hq : Int.tdiv (-(n : Int)) 10 = -((n / 10 : Nat) : Int) := by
          rw [Int.neg_tdiv, Int.tdiv_eq_ediv_of_nonneg (by omega)]; omega
        have hm : Int.tmod (-(n : Int)) 10 = -((n % 10 : Nat) : Int) := by
          rw [Int.neg_tmod, Int.tmod_eq_emod_of_nonneg (by omega)]; omega
        have e1 : wrap64 (Int.tdiv (-(n : Int)) 10) = -((n / 10 : Nat) : Int) := by
          rw [hq, w64 (by have := hr.1; omega) (by omega)]
        have e2 : wrap64 (-(Int.tmod (-(n : Int)) 10)) = ((n % 10 : Nat) : Int) := by
          rw [hm, w64 (by omega) (by omega)]; omega
        have r1 : Rg (-((n / 10 : Nat) : Int)) := ⟨by have := hr.1; omega, by omega⟩
        have r2 : Rg ((n % 10 : Nat) : Int) := ⟨by omega, by omega⟩
        have l1 := D_len r1
        have l2 := D_len r2
        refine Ev.step (f := fun k => (spec_l14Dec.f k (-((n / 10 : Nat) : Int))).bind fun t105 => ((spec_l14Dec.f k ((n % 10 : Nat) : Int)).bind fun t106 => (if t105.size + t106.size ≤ 9223372036854775807 then (some (t105 ++ t106)) else (none)))) (fun k => ?_) ?_
        · simp only [spec_l14Dec.f]
          rw [if_pos (by omega), if_pos (by omega), e1, e2]
        · refine (ih (n / 10) (by omega) (by omega) r1).bind ((dec_nat (n % 10) (n % 10) (Nat.le_refl _) (by omega) r2).bind ?_)
          rw [if_pos (by omega), ← D_neg_big n h]
          exact Ev.now _
  obtain ⟨n, hn⟩ := Int.eq_ofNat_of_zero_le (show 0 ≤ -v by omega)
  obtain rfl : v = -(n : Int) := by omega
  exact key n n (Nat.le_refl _) (by omega) hr
/-- What a number's look at a text gives. -/
def no2 : Int × Bool := (0, false)
def res (o : Option Int) : Int × Bool := match o with | some v => (v, true) | none => no2
theorem res_nm (s : ByteArray) : res (nm s) = (nv s, nb s) := by unfold res nv nb no2; cases nm s <;> rfl
def specR (x t : ByteArray) : Int × Bool := if t.data.toList.all isD = true then (if (t.size : Int) < (x.size : Int) then (if (D (-(decV 0 t.data.toList : Int))).toList = x.toList then (-(decV 0 t.data.toList : Int), true) else no2) else (if (D (decV 0 t.data.toList : Int)).toList = x.toList then ((decV 0 t.data.toList : Int), true) else no2)) else no2
theorem spec_num_loop (x t : ByteArray) (ht : t.size ≤ 9) : ∀ (d i : Nat), i + d = t.size → ∀ n : Nat, n < 10 ^ i → (t.data.toList.take i).all isD = true → decV n (t.data.toList.drop i) = decV 0 t.data.toList → Ev (fun k => spec_l14Number.l0 k x t (n : Int) (i : Int)) (specR x t) := by
  intro d
  induction d with
  | zero =>
    intro i hi n hn ha hv
    have hd : t.data.toList.drop i = [] := List.drop_eq_nil_of_le (by rw [len_size]; omega)
    have htk : t.data.toList.take i = t.data.toList := List.take_of_length_le (by rw [len_size]; omega)
    rw [hd] at hv
    rw [htk] at ha
    have hv' : n = decV 0 t.data.toList := hv
    have hlt := lt9 t.data.toList ha (by rw [len_size]; omega)
    unfold specR
    rw [if_pos ha, ← hv']
    have e1 : wrap64 (-(n : Int)) = -(n : Int) := w64 (by omega) (by omega)
    by_cases c : (t.size : Int) < (x.size : Int)
    · rw [if_pos c]
      refine Ev.step (f := fun k => (spec_l14Dec.f k (-(n : Int))).bind fun t122 => (if t122.toList = x.toList then (some (-(n : Int), true)) else (some (0, false)))) (fun k => ?_) ((dec_ev (-(n : Int)) ⟨by omega, by omega⟩).bind ?_)
      · simp only [spec_l14Number.l0]
        rw [if_neg (by omega), if_pos c, e1]
      · exact Ev.congr (f := fun _ => some (if (D (-(n : Int))).toList = x.toList then (-(n : Int), true) else no2)) (fun k => by unfold no2; split <;> rfl) (Ev.now _)
    · rw [if_neg c]
      refine Ev.step (f := fun k => (spec_l14Dec.f k ((n : Int))).bind fun t122 => (if t122.toList = x.toList then (some ((n : Int), true)) else (some (0, false)))) (fun k => ?_) ((dec_ev ((n : Int)) ⟨by omega, by omega⟩).bind ?_)
      · simp only [spec_l14Number.l0]
        rw [if_neg (by omega), if_neg c]
      · exact Ev.congr (f := fun _ => some (if (D ((n : Int))).toList = x.toList then ((n : Int), true) else no2)) (fun k => by unfold no2; split <;> rfl) (Ev.now _)
  | succ d ih =>
    intro i hi n hn ha hv
    have hlt : i < t.size := by omega
    have hi1 : i + 1 + d = t.size := by omega
    have hb := UInt8.toNat_lt t[i]
    have no : ¬ isD t[i] = true → Ev (fun k => spec_l14Number.l0 k x t (n : Int) (i : Int)) (specR x t) := fun h => by
      have hna : ¬ t.data.toList.all isD = true := fun h2 => h (List.all_eq_true.1 h2 _ (by rw [← List.take_append_drop i t.data.toList, drop_at t i hlt]; simp))
      unfold specR
      rw [if_neg hna]
      refine Ev.step (f := fun _ => some no2) (fun k => ?_) (Ev.now _)
      simp only [spec_l14Number.l0]
      rw [if_pos (by omega), if_pos (by omega), bt_i t i hlt]
      rw [isD_iff] at h
      by_cases c : (t[i].toNat : Int) < 48
      · rw [if_pos c]; rfl
      · rw [if_neg c, if_pos (by omega)]; rfl
    by_cases h : isD t[i] = true
    rotate_left
    · exact no h
    have hd := (isD_iff _).1 h
    have g1 : ¬ (t[i].toNat : Int) < 48 := by omega
    have g2 : ¬ (t[i].toNat : Int) > 57 := by omega
    have hpow : n * 10 + (t[i].toNat - 48) < 10 ^ (i + 1) := by rw [Nat.pow_succ]; omega
    have h9 : 10 ^ i ≤ 10 ^ 9 := Nat.pow_le_pow_right (by omega) (by omega)
    have p9 : (10 : Nat) ^ 9 = 1000000000 := by decide
    have e1 : wrap64 ((wrap64 ((n : Int) * 10)) + (((t[i].toNat : Int) - 48) % 256)) = ((n * 10 + (t[i].toNat - 48) : Nat) : Int) := by
      rw [w64 (x := (n : Int) * 10) (by omega) (by omega), w64 (by omega) (by omega)]; omega
    have e2 : wrap64 ((i : Int) + 1) = ((i + 1 : Nat) : Int) := by rw [w64 (by omega) (by omega)]; rfl
    refine Ev.step (fun k => ?_) (ih (i + 1) hi1 (n * 10 + (t[i].toNat - 48)) hpow ?_ ?_)
    · simp only [spec_l14Number.l0]
      rw [if_pos (Int.ofNat_lt.2 hlt), if_pos (Int.natCast_nonneg i), bt_i t i hlt, if_neg g1, if_neg g2, e1, e2]
    · rw [List.take_succ_eq_append_getElem (by rw [len_size]; exact hlt), List.all_append, ha]
      show (true && (isD t[i] && true)) = true
      rw [h]; rfl
    · rw [drop_at t i hlt] at hv; exact hv
theorem D_list (v : Int) : (D v).toList = Lib.itoa v := by rw [tl_list]; rfl
theorem nm_of (x : ByteArray) : nm x = if x.data.toList = [48] then some 0 else if x.data.toList.head? = some 45 then (nmU x.data.toList.tail).map fun (n : Nat) => -(n : Int) else (nmU x.data.toList).map fun (n : Nat) => (n : Int) := rfl
/-- Without a sign. -/
theorem specR_plain (x : ByteArray) (h0 : 1 ≤ x.size) (h9 : x.size ≤ 9) (hs : 1 < x.size → x.data.toList.head? ≠ some 45) : specR x x = res (nm x) := by
  have e0 : specR x x = if x.data.toList.all isD = true then (if Lib.decDigits (decV 0 x.data.toList) = x.data.toList then ((decV 0 x.data.toList : Int), true) else no2) else no2 := by
    unfold specR
    rw [if_neg (show ¬ (x.size : Int) < (x.size : Int) by omega), D_list, Lib.itoa_nonneg, tl_list]
  rw [e0, nm_of]
  by_cases ha : x.data.toList.all isD = true
  · rw [if_pos ha]
    have hl : 1 ≤ x.data.toList.length := by rw [len_size]; exact h0
    have h45 : ¬ x.data.toList.head? = some 45 := by
      intro e
      rw [head_at x h0] at e
      exact absurd (List.all_eq_true.1 ha x[0] (by have := drop_at x 0 h0; rw [List.drop_zero] at this; rw [this]; simp)) (by rw [Option.some.inj e]; decide)
    by_cases h48 : x.data.toList = [48]
    · rw [if_pos ((dec_iff _ ha hl).2 (.inr h48)), if_pos h48, h48]; rfl
    · rw [if_neg h48, if_neg h45]
      by_cases hh : x.data.toList.head? = some 48
      · rw [if_neg (fun e => ((dec_iff _ ha hl).1 e).elim (fun h => h hh) h48)]
        unfold nmU
        rw [if_neg (fun e => ((okU_iff _).1 e).2.2.1 hh)]; rfl
      · rw [if_pos ((dec_iff _ ha hl).2 (.inl hh))]
        unfold nmU
        rw [if_pos ((okU_iff _).2 ⟨hl, by rw [len_size]; exact h9, hh, ha⟩)]; rfl
  · rw [if_neg ha, if_neg (by intro e; rw [e] at ha; exact ha rfl)]
    by_cases h45 : x.data.toList.head? = some 45
    · rw [if_pos h45]
      have h1 : ¬ 1 < x.size := fun h => hs h h45
      have : x.data.toList.tail = [] := by apply List.eq_nil_of_length_eq_zero; rw [List.length_tail, len_size]; omega
      rw [this]; rfl
    · rw [if_neg h45]
      unfold nmU
      rw [if_neg (fun e => ha ((okU_iff _).1 e).2.2.2)]; rfl
/-- Behind a sign. -/
theorem specR_neg (x t : ByteArray) (ht : t.data.toList = x.data.toList.tail) (h45 : x.data.toList.head? = some 45) (hsz : t.size + 1 = x.size) (h0 : 1 ≤ t.size) (h9 : t.size ≤ 9) : specR x t = res (nm x) := by
  have hx : x.data.toList = 45 :: t.data.toList := by
    rw [ht]
    cases hc : x.data.toList with
    | nil => rw [hc] at h45; cases h45
    | cons a r => rw [hc] at h45; obtain rfl := Option.some.inj h45; rfl
  have e0 : specR x t = if t.data.toList.all isD = true then (if Lib.itoa (-(decV 0 t.data.toList : Int)) = x.data.toList then (-(decV 0 t.data.toList : Int), true) else no2) else no2 := by
    unfold specR
    rw [if_pos (show (t.size : Int) < (x.size : Int) by omega), D_list, tl_list]
  have e1 : nm x = (nmU t.data.toList).map fun (n : Nat) => -(n : Int) := by
    rw [nm_of, if_neg (by intro e; rw [hx] at e; injection e with e _; exact absurd e (by decide)), if_pos h45, ← ht]
  rw [e0, e1, hx]
  clear e0 e1
  have hl : 1 ≤ t.data.toList.length := by rw [len_size]; exact h0
  by_cases ha : t.data.toList.all isD = true
  · rw [if_pos ha]
    by_cases hh : t.data.toList.head? = some 48
    · unfold nmU
      rw [if_neg (fun e => ((okU_iff _).1 e).2.2.1 hh)]
      refine if_neg (fun e => ?_)
      rcases Nat.eq_zero_or_pos (decV 0 t.data.toList) with h | h
      · rw [h] at e
        rw [show (-((0 : Nat) : Int)) = ((0 : Nat) : Int) from rfl, Lib.itoa_nonneg, decDigits_zero] at e
        cases e
      · rw [Lib.itoa_neg _ h] at e
        injection e with _ e
        exact decDigits_head _ _ (Nat.le_refl _) h (by rw [e]; exact hh)
    · unfold nmU
      rw [if_pos ((okU_iff _).2 ⟨hl, by rw [len_size]; exact h9, hh, ha⟩)]
      refine if_pos ?_
      rw [Lib.itoa_neg _ (decV_pos _ ha hh hl), (dec_iff _ ha hl).2 (.inl hh)]
  · rw [if_neg ha]
    unfold nmU
    rw [if_neg (fun e => ha ((okU_iff _).1 e).2.2.2)]; rfl
theorem nmU_long (t : List UInt8) (h : t.length < 1 ∨ 9 < t.length) : nmU t = none := by
  unfold nmU
  rw [if_neg]
  intro e
  have := (okU_iff _).1 e
  omega
theorem spec_num (x : ByteArray) (hx : x.size ≤ 1048576) : Ev (fun k => spec_l14Number.f k x) (nv x, nb x) := by
  rw [← res_nm]
  -- behind the sign
  have j1 : ∀ t : ByteArray, ((1 ≤ t.size ∧ t.size ≤ 9) → specR x t = res (nm x)) → (¬ (1 ≤ t.size ∧ t.size ≤ 9) → no2 = res (nm x)) → Ev (fun k => spec_l14Number.j1 k x t) (res (nm x)) := by
    intro t h1 h2
    have stop : no2 = res (nm x) → Ev (fun k => spec_l14Number.j2 k x t 0 true) (res (nm x)) := fun h => Ev.step (f := fun _ => some (res (nm x))) (fun k => by simp only [spec_l14Number.j2]; rw [if_pos trivial, ← h]; rfl) (Ev.now _)
    by_cases c1 : (t.size : Int) < 1
    · exact Ev.step (fun k => by simp only [spec_l14Number.j1]; rw [if_pos c1]) (stop (h2 (by omega)))
    · by_cases c2 : (t.size : Int) > 9
      · refine Ev.step (fun k => by simp only [spec_l14Number.j1]; rw [if_neg c1, decide_eq_true c2]) (stop (h2 (by omega)))
      · have h := h1 ⟨by omega, by omega⟩
        refine Ev.step (f := fun k => spec_l14Number.j2 k x t 0 false) (fun k => by simp only [spec_l14Number.j1]; rw [if_neg c1, decide_eq_false c2]) ?_
        refine Ev.step (f := fun k => spec_l14Number.l0 k x t ((0 : Nat) : Int) ((0 : Nat) : Int)) (fun k => by simp only [spec_l14Number.j2]; rw [if_neg (by decide)]; rfl) ?_
        rw [← h]
        exact spec_num_loop x t (by omega) t.size 0 (by omega) 0 (by decide) rfl rfl
  have plain : (1 < x.size → x.data.toList.head? ≠ some 45) → Ev (fun k => spec_l14Number.j0 k x x false) (res (nm x)) := fun h45 => by
    refine Ev.step (fun k => by simp only [spec_l14Number.j0]; rw [if_neg (by decide)]) (j1 x (fun h => specR_plain x h.1 h.2 h45) (fun h => ?_))
    rw [nm_of, if_neg (by intro e; have := congrArg List.length e; rw [len_size] at this; simp at this; omega)]
    by_cases c : x.data.toList.head? = some 45
    · have h1 : x.size = 0 := by
        by_cases h1 : 1 < x.size
        · exact absurd c (h45 h1)
        · omega
      have : x.data.toList = [] := List.eq_nil_of_length_eq_zero (by rw [len_size]; exact h1)
      rw [this] at c; cases c
    · rw [if_neg c, nmU_long _ (by rw [len_size]; omega)]; rfl
  by_cases c1 : (x.size : Int) > 1
  · refine Ev.congr (f := fun k => spec_l14Number.j0 k x x (decide (x.data.toList.head? = some 45))) (fun k => by unfold spec_l14Number.f; rw [if_pos c1, if_pos (by omega), bt0_45 x (by omega)]) ?_
    by_cases c : x.data.toList.head? = some 45
    · rw [decide_eq_true c]
      refine Ev.step (f := fun k => spec_l14Number.j1 k x (x.extract 1 x.size)) (fun k => by simp only [spec_l14Number.j0]; rw [if_pos trivial, if_pos (by omega)]) (j1 _ (fun h => specR_neg x _ (tail_ext x) c (by rw [tl_size]; omega) h.1 h.2) (fun h => ?_))
      rw [tl_size] at h
      rw [nm_of, if_neg (by intro e; have := congrArg List.length e; rw [len_size] at this; simp at this; omega), if_pos c, nmU_long _ (by rw [List.length_tail, len_size]; omega)]; rfl
    · rw [decide_eq_false c]
      exact plain (fun _ => c)
  · exact Ev.congr (fun k => by unfold spec_l14Number.f; rw [if_neg c1]) (plain (fun h => absurd h (by omega)))
theorem impl_num_loop (x t : ByteArray) (hx : x.size ≤ 1048576) (ht : t.size ≤ 9) (v : Int) (hv : t.data.toList.all isD = true → Lib.parseIntB 64 x.data.toList = .ok v) : ∀ (d i : Nat), i + d = t.size → (t.data.toList.take i).all isD = true → Ev (fun k => impl_number.l0 k x t (t.size : Int) (i : Int)) (if t.data.toList.all isD = true then (v, true) else ((0 : Int), false)) := by
  intro d
  induction d with
  | zero =>
    intro i hi ha
    rw [List.take_of_length_le (by rw [len_size]; omega)] at ha
    rw [if_pos ha]
    refine Ev.step (f := fun _ => some (v, true)) (fun k => ?_) (Ev.now _)
    simp only [impl_number.l0]
    rw [if_neg (by omega)]
    unfold strconv_ParseInt.f
    rw [if_pos ⟨rfl, rfl, hx⟩, hv ha]; rfl
  | succ d ih =>
    intro i hi ha
    have hlt : i < t.size := by omega
    by_cases h : isD t[i] = true
    · have hd := (isD_iff _).1 h
      have e2 : wrap64 ((i : Int) + 1) = ((i + 1 : Nat) : Int) := by rw [w64 (by omega) (by omega)]; rfl
      refine Ev.step (fun k => ?_) (ih (i + 1) (by omega) ?_)
      · simp only [impl_number.l0]
        rw [if_pos (by omega), if_pos (by omega), if_pos (by omega), bt_i t i hlt, if_neg (by omega), if_neg (by omega), e2]
      · rw [List.take_succ_eq_append_getElem (by rw [len_size]; exact hlt), List.all_append, ha]
        show (true && (isD t[i] && true)) = true
        rw [h]; rfl
    · have hna : ¬ t.data.toList.all isD = true := fun h2 => h (List.all_eq_true.1 h2 _ (by rw [← List.take_append_drop i t.data.toList, drop_at t i hlt]; simp))
      rw [if_neg hna]
      refine Ev.step (f := fun _ => some ((0 : Int), false)) (fun k => ?_) (Ev.now _)
      simp only [impl_number.l0]
      rw [if_pos (by omega), if_pos (by omega), if_pos (by omega), bt_i t i hlt]
      rw [isD_iff] at h
      by_cases c : (t[i].toNat : Int) < 48
      · rw [if_pos c]
      · rw [if_neg c, if_pos (by omega)]
theorem nmU_none (t : ByteArray) (h : ¬ (1 ≤ t.size ∧ t.size ≤ 9 ∧ t.data.toList.head? ≠ some 48 ∧ t.data.toList.all isD = true)) : nmU t.data.toList = none := by
  unfold nmU
  rw [if_neg]
  intro e
  have := (okU_iff _).1 e
  rw [len_size] at this
  exact h this
theorem impl_num (x : ByteArray) (hx : x.size ≤ 1048576) : Ev (fun k => impl_number.f k x) (nv x, nb x) := by
  have key : ∀ (o : Option Int), nm x = o → (nv x, nb x) = (match o with | some v => (v, true) | none => ((0 : Int), false)) := by
    intro o h; unfold nv nb; rw [h]; cases o <;> rfl
  have j1 : ∀ (t : ByteArray) (f : Nat → Int), nm x = (nmU t.data.toList).map f → (okU t.data.toList = true → Lib.parseIntB 64 x.data.toList = .ok (f (decV 0 t.data.toList))) → Ev (fun k => impl_number.j1 k x t) (nv x, nb x) := by
    intro t f hf hp
    have stop : ¬ (1 ≤ t.size ∧ t.size ≤ 9 ∧ t.data.toList.head? ≠ some 48 ∧ t.data.toList.all isD = true) → Ev (fun k => impl_number.j2 k x t true) (nv x, nb x) := fun h => by
      rw [nmU_none t h] at hf
      rw [key _ hf]
      exact Ev.step (f := fun _ => some ((0 : Int), false)) (fun k => by simp only [impl_number.j2]; rw [if_pos trivial]) (Ev.now _)
    by_cases c1 : (t.size : Int) < 1
    · exact Ev.step (fun k => by simp only [impl_number.j1]; rw [if_pos c1]) (stop (by omega))
    by_cases c2 : (t.size : Int) > 9
    · exact Ev.step (fun k => by simp only [impl_number.j1]; rw [if_neg c1, if_pos c2]) (stop (by omega))
    refine Ev.step (f := fun k => impl_number.j2 k x t (decide (t.data.toList.head? = some 48))) (fun k => by simp only [impl_number.j1]; rw [if_neg c1, if_neg c2, if_pos (by omega), bt0_48 t (by omega)]) ?_
    by_cases c3 : t.data.toList.head? = some 48
    · rw [decide_eq_true c3]; exact stop (fun h => h.2.2.1 c3)
    rw [decide_eq_false c3]
    refine Ev.step (f := fun k => impl_number.l0 k x t (t.size : Int) ((0 : Nat) : Int)) (fun k => by simp only [impl_number.j2]; rw [if_neg (by decide)]; rfl) ?_
    have hok : t.data.toList.all isD = true → okU t.data.toList = true := fun h => (okU_iff _).2 ⟨by rw [len_size]; omega, by rw [len_size]; omega, c3, h⟩
    have := impl_num_loop x t hx (by omega) (f (decV 0 t.data.toList)) (fun h => hp (hok h)) t.size 0 (by omega) rfl
    by_cases ha : t.data.toList.all isD = true
    · rw [if_pos ha] at this
      unfold nmU at hf
      rw [if_pos (hok ha)] at hf
      rw [key _ hf]; exact this
    · rw [if_neg ha] at this
      rw [nmU_none t (fun h => ha h.2.2.2)] at hf
      rw [key _ hf]; exact this
  have hnm : nm x = if x.data.toList = [48] then some 0 else if x.data.toList.head? = some 45 then (nmU x.data.toList.tail).map fun (n : Nat) => -(n : Int) else (nmU x.data.toList).map fun (n : Nat) => (n : Int) := rfl
  by_cases h48 : x.data.toList = [48]
  · rw [if_pos h48] at hnm
    rw [key _ hnm]
    exact Ev.congr (f := fun _ => some ((0 : Int), true)) (fun k => by unfold impl_number.f; rw [tl_list, if_pos h48]) (Ev.now _)
  rw [if_neg h48] at hnm
  by_cases hnil : x.data.toList = []
  · have h45 : ¬ x.data.toList.head? = some 45 := by rw [hnil]; simp
    rw [if_neg h45] at hnm
    refine Ev.congr (f := fun k => impl_number.j0 k x x false) (fun k => by unfold impl_number.f; rw [tl_list, if_neg h48, if_pos hnil]) ?_
    refine Ev.step (fun k => by simp only [impl_number.j0]; rw [if_neg (by decide)]) (j1 x _ hnm (fun h => ?_))
    rw [hnil] at h; exact absurd h (by decide)
  have hpos : 0 < x.size := by
    rw [← len_size]; exact List.length_pos_iff.2 hnil
  refine Ev.congr (f := fun k => impl_number.j0 k x x (decide (x.data.toList.head? = some 45))) (fun k => by unfold impl_number.f; rw [tl_list, if_neg h48, if_neg hnil, if_pos (by omega), bt0_45 x hpos]) ?_
  by_cases h45 : x.data.toList.head? = some 45
  · rw [if_pos h45] at hnm
    rw [decide_eq_true h45]
    refine Ev.step (f := fun k => impl_number.j1 k x (x.extract 1 x.size)) (fun k => by simp only [impl_number.j0]; rw [if_pos trivial, if_pos (by omega)]) (j1 _ (fun (n : Nat) => -(n : Int)) (by rw [tail_ext]; exact hnm) (fun h => ?_))
    rw [tail_ext] at h ⊢
    have hx2 : x.data.toList = 45 :: x.data.toList.tail := by
      cases hc : x.data.toList with
      | nil => exact absurd hc hnil
      | cons a r => rw [hc] at h45; obtain rfl := Option.some.inj h45; rfl
    rw [hx2]; exact intB_neg _ h
  · rw [if_neg h45] at hnm
    rw [decide_eq_false h45]
    exact Ev.step (fun k => by simp only [impl_number.j0]; rw [if_neg (by decide)]) (j1 x _ hnm (fun h => intB_pos _ h))
theorem rdS (l : List ByteArray) (i : Nat) (h : i < l.length) : rdOf ByteArray.empty l (i : Int) = l[i] := by simp [rdOf, h]
theorem sub_size (s : ByteArray) (q n : Nat) : (s.extract q n).size ≤ s.size := by rw [ByteArray.size_extract]; omega
/-- The pieces are no longer than the whole. -/
theorem split_small (sep : ByteArray) (B : Nat) : ∀ (k : Nat) (s : ByteArray), s.size ≤ B → ∀ p ∈ Lib.splitB sep 0 k s, p.size ≤ B
  | 0, s, h, p, hp => by rw [Lib.splitB_zero, List.mem_singleton] at hp; subst hp; exact h
  | k + 1, s, h, p, hp => by
    unfold Lib.splitB at hp
    split at hp
    · rw [List.mem_singleton] at hp; subst hp; exact h
    · rcases List.mem_cons.1 hp with e | e
      · subst e; exact Nat.le_trans (sub_size _ _ _) h
      · exact split_small sep B k _ (Nat.le_trans (sub_size _ _ _) h) p e
abbrev Res := Int × Int × ByteArray × ByteArray × Int × Int × Int × ByteArray × List Int
def eB : ByteArray := ⟨#[]⟩
def bad : Res := (0, 0, eB, eB, 0, 0, 0, eB, [])
structure St where
  p : ByteArray
  q : ByteArray
  d : ByteArray
  h : Int
  o : Int
  s : Int
  fill : Int
def st0 : St := ⟨eB, eB, eB, 0, 0, 0, 0⟩
def callR (k : Int) (t : St) : Res := (1, k, t.p, t.q, t.h, t.o, t.s, t.d, [])
/-- So many letters from one on. -/
def letL (n c : Nat) : List Int := (List.range n).map fun i => ((97 + (c - 97 + i) % 26 : Nat) : Int)
/-- What a field of this letter's kind does. -/
def stepF (c : UInt8) (f : ByteArray) (t : St) : Option St :=
  if c = 80 then some { t with p := f }
  else if c = 81 then some { t with q := f }
  else if c = 68 then (if (uq f).1 = true then some { t with d := (uq f).2 } else none)
  else if c = 87 then (if f.size = 1 ∧ 97 ≤ bt f 0 ∧ bt f 0 ≤ 122 then some { t with d := strOfNums (letL t.fill.toNat (bt f 0).toNat) } else none)
  else match nm f with
    | none => none
    | some v => if c = 78 then some { t with o := v } else if c = 83 then some { t with s := v } else if c = 72 then some { t with h := v }
      else if c = 70 then (if 0 ≤ v ∧ v ≤ 3000 then some { t with fill := v } else none) else some t
def runF : List UInt8 → List ByteArray → St → Option St
  | c :: cs, f :: fs, t => (stepF c f t).bind (runF cs fs)
  | _, _, t => some t
def endF (k : Int) : Option St → Res
  | some t => callR k t
  | none => bad
theorem uq_no (f : ByteArray) (h : (uq f).1 = false) : (uq f).2 = eB := by
  unfold uq at h ⊢
  split at h
  · cases h
  · rename_i c
    rw [if_neg c]
    unfold specF fin no so at *
    cases hu : ud f.data.toList with
    | none => rfl
    | some d =>
      rw [hu] at h
      dsimp only at h ⊢
      split
      · rfl
      · rename_i c1
        rw [if_neg c1] at h
        split
        · rfl
        · rename_i c2
          rw [if_neg c2] at h
          cases h
def numsR (arm : Bool) (a : List ByteArray) : Res :=
  match a.mapM nm with
  | none => bad
  | some ns => if arm = true then (if (ns.length : Int) - 1 < 0 then bad else if rd ns 0 < 1 then bad else if (ns.length : Int) - 1 > 600 then bad else (4, 0, eB, eB, 0, 0, 0, eB, ns)) else (if (ns.length : Int) > 600 then bad else (5, 0, eB, eB, 0, 0, 0, eB, ns))
def wTree : List UInt8 := [116, 114, 101, 101]
def wCheck : List UInt8 := [99, 104, 101, 99, 107]
def wMount : List UInt8 := [109, 111, 117, 110, 116]
def wArm : List UInt8 := [97, 114, 109]
def wCrash : List UInt8 := [99, 114, 97, 115, 104]
/-- What a word and fields come to. -/
def ans (w : ByteArray) (a : List ByteArray) : Res :=
  if w.data.toList = wTree ∨ w.data.toList = wCheck ∨ w.data.toList = wMount then (if (a.length : Int) > 0 then bad else (Shp.three w, 0, eB, eB, 0, 0, 0, eB, []))
  else if w.data.toList = wArm ∨ w.data.toList = wCrash then numsR (w.data.toList == wArm) a
  else if Shp.kind w = 0 ∨ a.length ≠ (Shp.form w).size then bad
  else endF (Shp.kind w) (runF (Shp.form w).data.toList a st0)
def ansL : List ByteArray → Res
  | w :: a => if (w :: a).any (fun f => f.data.toList.isEmpty) = true then bad else ans w a
  | [] => bad
def sp : ByteArray := ⟨#[32]⟩
/-- The fields of a line. -/
def fields (s : ByteArray) : List ByteArray := Lib.splitB sp 0 (Lib.countB s sp) s
def parse (s : ByteArray) : Res := if s.size > 65536 then bad else if s.data.toList = [] then bad else ansL (fields s)
theorem letL_len (n c : Nat) : (letL n c).length = n := by simp [letL]
theorem letter_is (c j : Nat) (h1 : 97 ≤ c) (h2 : c ≤ 122) (hj : j ≤ 3000) : (97 + ((Int.tmod (wrap64 ((((c : Int) - 97) % 256) + (j : Int))) 26) % 256)) % 256 = ((97 + (c - 97 + j) % 26 : Nat) : Int) := by
  have e1 : wrap64 ((((c : Int) - 97) % 256) + (j : Int)) = ((c - 97 + j : Nat) : Int) := by rw [w64 (by omega) (by omega)]; omega
  rw [e1, Int.tmod_eq_emod_of_nonneg (by omega)]
  omega
theorem impl_letters (a : List ByteArray) (f : ByteArray) (i : Nat) (hi : i + 1 ≤ 1048576) (kind : Int) (form : ByteArray) (n c : Nat) (hc : bt f 0 = (c : Int)) (h1 : 97 ≤ c) (h2 : c ≤ 122) (hn : n ≤ 3000) (hf : f.size = 1) (k0 : Int) (p q : ByteArray) (h o s : Int) (d : ByteArray) (r : Res)
    (H : Ev (fun k => impl_ParseLine.l2 k (n : Int) a (a.length : Int) ((i + 1 : Nat) : Int) kind form k0 p q h o s (strOfNums (letL n c))) r) :
    ∀ (e j : Nat), j + e = n → ∀ x : List Int, x.length = n → x.take j = (letL n c).take j → Ev (fun k => impl_ParseLine.l3 k (n : Int) f x a (a.length : Int) (i : Int) (n : Int) (j : Int) kind form k0 p q h o s d) r := by
  have ei : wrap64 ((i : Int) + 1) = ((i + 1 : Nat) : Int) := by rw [w64 (by omega) (by omega)]; rfl
  intro e
  induction e with
  | zero =>
    intro j hj x hx ht
    have : x = letL n c := by
      rw [List.take_of_length_le (by omega), List.take_of_length_le (by rw [letL_len]; omega)] at ht; exact ht
    subst this
    refine Ev.step (fun k => ?_) H
    simp only [impl_ParseLine.l3]
    rw [if_neg (by omega), ei]
  | succ e ih =>
    intro j hj x hx ht
    have ej : wrap64 ((j : Int) + 1) = ((j + 1 : Nat) : Int) := by rw [w64 (by omega) (by omega)]; rfl
    have hjn : j < n := by omega
    refine Ev.step (fun k => ?_) (ih (j + 1) (by omega) (x.set j ((97 + (c - 97 + j) % 26 : Nat) : Int)) (by rw [List.length_set]; exact hx) ?_)
    · simp only [impl_ParseLine.l3]
      rw [if_pos (by omega), if_pos (by omega), if_pos (by omega), if_pos (by omega), hc, letter_is c j h1 h2 (by omega), ej, Int.toNat_natCast]
    · rw [List.take_succ_eq_append_getElem (by rw [List.length_set]; omega), List.take_succ_eq_append_getElem (by rw [letL_len]; omega), List.take_set_of_le (Nat.le_refl _), ht]
      simp [letL]
theorem sizeLe {a : List ByteArray} (hs : ∀ f ∈ a, f.size ≤ 1048576) (i : Nat) (h : i < a.length) : (a[i]).size ≤ 1048576 := hs _ (List.getElem_mem _)
theorem impl_run (kind : Int) (form : ByteArray) (a : List ByteArray) (hl : a.length = form.size) (ha : a.length ≤ 100) (hs : ∀ f ∈ a, f.size ≤ 1048576) :
    ∀ (e i : Nat), i + e = a.length → ∀ t : St, 0 ≤ t.fill → t.fill ≤ 3000 → Ev (fun k => impl_ParseLine.l2 k t.fill a (a.length : Int) (i : Int) kind form kind t.p t.q t.h t.o t.s t.d) (endF kind (runF (form.data.toList.drop i) (a.drop i) t)) := by
  intro e
  induction e with
  | zero =>
    intro i hi t f0 f1
    have hd : a.drop i = [] := List.drop_eq_nil_of_le (by omega)
    have hr : runF (form.data.toList.drop i) (a.drop i) t = some t := by rw [hd]; cases form.data.toList.drop i <;> rfl
    rw [hr]
    refine Ev.step (f := fun _ => some (callR kind t)) (fun k => ?_) (Ev.now _)
    simp only [impl_ParseLine.l2]
    rw [if_neg (by omega)]; rfl
  | succ e ih =>
    intro i hi t f0 f1
    have hia : i < a.length := by omega
    have hif : i < form.size := by omega
    have ei : wrap64 ((i : Int) + 1) = ((i + 1 : Nat) : Int) := by rw [w64 (by omega) (by omega)]; rfl
    have hda : a.drop i = a[i] :: a.drop (i + 1) := List.drop_eq_getElem_cons hia
    have hsz := sizeLe hs i hia
    have nx : ∀ t' : St, stepF form[i] a[i] t = some t' → 0 ≤ t'.fill → t'.fill ≤ 3000 → Ev (fun k => impl_ParseLine.l2 k t'.fill a (a.length : Int) ((i + 1 : Nat) : Int) kind form kind t'.p t'.q t'.h t'.o t'.s t'.d) (endF kind (runF (form.data.toList.drop i) (a.drop i) t)) := by
      intro t' h g0 g1
      rw [drop_at form i hif, hda, runF, h]
      exact ih (i + 1) (by omega) t' g0 g1
    have no : stepF form[i] a[i] t = none → bad = endF kind (runF (form.data.toList.drop i) (a.drop i) t) := by
      intro h
      rw [drop_at form i hif, hda, runF, h]; rfl
    have c1 : ((i : Int) < (a.length : Int)) = True := eq_true (by omega)
    have c2 : (0 ≤ (i : Int)) = True := eq_true (by omega)
    have c4 : ((i : Int) < (form.size : Int)) = True := eq_true (by omega)
    have e0 := rdS a i hia
    have e1 := bt_i form i hif
    clear ih
    by_cases h80 : form[i] = 80
    · have hb : (form[i].toNat : Int) = 80 := by rw [h80]; rfl
      refine Ev.step (f := fun k => (impl_number.f k a[i]).bind fun _ => impl_ParseLine.l2 k t.fill a (a.length : Int) ((i + 1 : Nat) : Int) kind form kind a[i] t.q t.h t.o t.s t.d) (fun k => ?_) ((impl_num a[i] hsz).bind (nx { t with p := a[i] } (by unfold stepF; rw [if_pos h80]) f0 f1))
      simp only [impl_ParseLine.l2, c1, c2, c4, e0, e1, hb, ei, ↓reduceIte]
    by_cases h81 : form[i] = 81
    · have hb : (form[i].toNat : Int) = 81 := by rw [h81]; rfl
      refine Ev.step (f := fun k => (impl_number.f k a[i]).bind fun _ => impl_ParseLine.l2 k t.fill a (a.length : Int) ((i + 1 : Nat) : Int) kind form kind t.p a[i] t.h t.o t.s t.d) (fun k => ?_) ((impl_num a[i] hsz).bind (nx { t with q := a[i] } (by unfold stepF; rw [if_neg h80, if_pos h81]) f0 f1))
      simp only [impl_ParseLine.l2, c1, c2, c4, e0, e1, hb, ei, ↓reduceIte, Int.reduceEq]
    by_cases h68 : form[i] = 68
    · have hb : (form[i].toNat : Int) = 68 := by rw [h68]; rfl
      refine Ev.step (f := fun k => (impl_number.f k a[i]).bind fun _ => (impl_Unquote.f k a[i]).bind fun bt315 => (if (!bt315.1 && (bt315.2.toList == ([] : List UInt8))) = true then some bad else (impl_ParseLine.l2 k t.fill a (a.length : Int) ((i + 1 : Nat) : Int) kind form kind t.p t.q t.h t.o t.s bt315.2))) (fun k => ?_) ((impl_num a[i] hsz).bind ((impl_uq a[i] hsz).bind ?_))
      · simp only [impl_ParseLine.l2, c1, c2, c4, e0, e1, hb, ei, ↓reduceIte, Int.reduceEq]; rfl
      by_cases hg : (uq a[i]).1 = true
      · exact Ev.congr (fun k => if_neg (by rw [hg]; simp)) (nx { t with d := (uq a[i]).2 } (by unfold stepF; rw [if_neg h80, if_neg h81, if_pos h68, if_pos hg]) f0 f1)
      · rw [← no (by unfold stepF; rw [if_neg h80, if_neg h81, if_pos h68, if_neg hg])]
        rw [Bool.not_eq_true] at hg
        exact Ev.congr (f := fun _ => some bad) (fun k => if_pos (by rw [hg, uq_no _ hg, tl_list]; rfl)) (Ev.now _)
    by_cases h87 : form[i] = 87
    · have hb : (form[i].toNat : Int) = 87 := by rw [h87]; rfl
      have ex : ∀ x, stepF form[i] a[i] t = x ↔ (if a[i].size = 1 ∧ 97 ≤ bt a[i] 0 ∧ bt a[i] 0 ≤ 122 then some { t with d := strOfNums (letL t.fill.toNat (bt a[i] 0).toNat) } else none) = x := fun x => by unfold stepF; rw [if_neg h80, if_neg h81, if_neg h68, if_pos h87]
      have stop : ¬ (a[i].size = 1 ∧ 97 ≤ bt a[i] 0 ∧ bt a[i] 0 ≤ 122) → Ev (fun k => impl_ParseLine.j8 k t.fill a[i] a (a.length : Int) (i : Int) true kind form kind t.p t.q t.h t.o t.s t.d) (endF kind (runF (form.data.toList.drop i) (a.drop i) t)) := fun h => by
        rw [← no ((ex _).2 (if_neg h))]
        exact Ev.step (f := fun _ => some bad) (fun k => by simp only [impl_ParseLine.j8]; rw [if_pos trivial]; rfl) (Ev.now _)
      refine Ev.step (f := fun k => (impl_number.f k a[i]).bind fun _ => (if (a[i].size : Int) = 1 then (if 0 < (a[i].size : Int) then (if (bt a[i] 0) < 97 then (impl_ParseLine.j8 k t.fill a[i] a (a.length : Int) (i : Int) true kind form kind t.p t.q t.h t.o t.s t.d) else (impl_ParseLine.j8 k t.fill a[i] a (a.length : Int) (i : Int) (decide ((bt a[i] 0) > 122)) kind form kind t.p t.q t.h t.o t.s t.d)) else none) else (impl_ParseLine.j8 k t.fill a[i] a (a.length : Int) (i : Int) true kind form kind t.p t.q t.h t.o t.s t.d))) (fun k => ?_) ((impl_num a[i] hsz).bind ?_)
      · simp only [impl_ParseLine.l2, c1, c2, c4, e0, e1, hb, ei, ↓reduceIte, Int.reduceEq]
      by_cases g1 : (a[i].size : Int) = 1
      rotate_left
      · exact Ev.congr (fun k => if_neg g1) (stop (fun h => g1 (by rw [h.1]; rfl)))
      refine Ev.congr (fun k => if_pos g1) (Ev.congr (fun k => if_pos (by omega)) ?_)
      by_cases g2 : bt a[i] 0 < 97
      · exact Ev.congr (fun k => if_pos g2) (stop (fun h => by omega))
      refine Ev.congr (fun k => if_neg g2) ?_
      by_cases g3 : bt a[i] 0 > 122
      · rw [decide_eq_true g3]; exact stop (fun h => by omega)
      rw [decide_eq_false g3]
      have hc : bt a[i] 0 = ((bt a[i] 0).toNat : Int) := (Int.toNat_of_nonneg (by omega)).symm
      have hn : t.fill = (t.fill.toNat : Int) := (Int.toNat_of_nonneg f0).symm
      have key := nx { t with d := strOfNums (letL t.fill.toNat (bt a[i] 0).toNat) } ((ex _).2 (if_pos ⟨by omega, by omega, by omega⟩)) f0 f1
      generalize hN : t.fill.toNat = n at key hn
      generalize hC : (bt a[i] 0).toNat = c at key hc
      dsimp only at key
      rw [hn] at key ⊢
      refine Ev.step (f := fun k => impl_ParseLine.l3 k (n : Int) a[i] (List.replicate n 0) a (a.length : Int) (i : Int) (n : Int) ((0 : Nat) : Int) kind form kind t.p t.q t.h t.o t.s t.d) (fun k => ?_) (impl_letters a a[i] i (by omega) kind form n c hc (by omega) (by omega) (by omega) (by omega) kind t.p t.q t.h t.o t.s t.d _ key n 0 (by omega) _ (List.length_replicate ..) rfl)
      simp only [impl_ParseLine.j8]
      rw [if_neg (by decide), if_pos (by omega), if_pos (by omega), Option.bind_some, Int.toNat_natCast, List.length_replicate]; rfl
    have b80 : ((form[i].toNat : Int) = 80) = False := eq_false (fun c => h80 (UInt8.toNat_inj.1 (show form[i].toNat = (80 : UInt8).toNat from (Int.ofNat_inj.1 c : form[i].toNat = 80))))
    have b81 : ((form[i].toNat : Int) = 81) = False := eq_false (fun c => h81 (UInt8.toNat_inj.1 (show form[i].toNat = (81 : UInt8).toNat from (Int.ofNat_inj.1 c : form[i].toNat = 81))))
    have b68 : ((form[i].toNat : Int) = 68) = False := eq_false (fun c => h68 (UInt8.toNat_inj.1 (show form[i].toNat = (68 : UInt8).toNat from (Int.ofNat_inj.1 c : form[i].toNat = 68))))
    have b87 : ((form[i].toNat : Int) = 87) = False := eq_false (fun c => h87 (UInt8.toNat_inj.1 (show form[i].toNat = (87 : UInt8).toNat from (Int.ofNat_inj.1 c : form[i].toNat = 87))))
    have ex : stepF form[i] a[i] t = match nm a[i] with | none => none | some v => if form[i] = 78 then some { t with o := v } else if form[i] = 83 then some { t with s := v } else if form[i] = 72 then some { t with h := v } else if form[i] = 70 then (if 0 ≤ v ∧ v ≤ 3000 then some { t with fill := v } else none) else some t := by unfold stepF; rw [if_neg h80, if_neg h81, if_neg h68, if_neg h87]
    refine Ev.step (f := fun k => (impl_number.f k a[i]).bind fun bt313 => (if bt313.2 = true then (if (form[i].toNat : Int) = 78 then (impl_ParseLine.l2 k t.fill a (a.length : Int) ((i + 1 : Nat) : Int) kind form kind t.p t.q t.h bt313.1 t.s t.d) else (if (form[i].toNat : Int) = 83 then (impl_ParseLine.l2 k t.fill a (a.length : Int) ((i + 1 : Nat) : Int) kind form kind t.p t.q t.h t.o bt313.1 t.d) else (if (form[i].toNat : Int) = 72 then (impl_ParseLine.l2 k t.fill a (a.length : Int) ((i + 1 : Nat) : Int) kind form kind t.p t.q bt313.1 t.o t.s t.d) else (if (form[i].toNat : Int) = 70 then ((impl_in.f bt313.1 0 3000).bind fun t322 => (if t322 = true then (impl_ParseLine.l2 k bt313.1 a (a.length : Int) ((i + 1 : Nat) : Int) kind form kind t.p t.q t.h t.o t.s t.d) else some bad)) else (impl_ParseLine.l2 k t.fill a (a.length : Int) ((i + 1 : Nat) : Int) kind form kind t.p t.q t.h t.o t.s t.d))))) else some bad)) (fun k => ?_) ((impl_num a[i] hsz).bind ?_)
    · simp only [impl_ParseLine.l2, c1, c2, c4, e0, e1, b80, b81, b68, b87, ei, ↓reduceIte]; rfl
    unfold nv nb
    cases hnm : nm a[i] with
    | none =>
      rw [hnm] at ex
      rw [← no ex]
      exact Ev.congr (f := fun _ => some bad) (fun k => if_neg (by decide)) (Ev.now _)
    | some v =>
      rw [hnm] at ex
      dsimp only at ex
      refine Ev.congr (fun k => if_pos rfl) ?_
      dsimp only [Option.getD_some]
      by_cases h78 : form[i] = 78
      · rw [if_pos h78] at ex
        exact Ev.congr (fun k => if_pos (by rw [h78]; rfl)) (nx _ ex f0 f1)
      rw [if_neg h78] at ex
      refine Ev.congr (fun k => if_neg (fun c => h78 (UInt8.toNat_inj.1 (show form[i].toNat = (78 : UInt8).toNat from (Int.ofNat_inj.1 c : form[i].toNat = 78))))) ?_
      by_cases h83 : form[i] = 83
      · rw [if_pos h83] at ex
        exact Ev.congr (fun k => if_pos (by rw [h83]; rfl)) (nx _ ex f0 f1)
      rw [if_neg h83] at ex
      refine Ev.congr (fun k => if_neg (fun c => h83 (UInt8.toNat_inj.1 (show form[i].toNat = (83 : UInt8).toNat from (Int.ofNat_inj.1 c : form[i].toNat = 83))))) ?_
      by_cases h72 : form[i] = 72
      · rw [if_pos h72] at ex
        exact Ev.congr (fun k => if_pos (by rw [h72]; rfl)) (nx _ ex f0 f1)
      rw [if_neg h72] at ex
      refine Ev.congr (fun k => if_neg (fun c => h72 (UInt8.toNat_inj.1 (show form[i].toNat = (72 : UInt8).toNat from (Int.ofNat_inj.1 c : form[i].toNat = 72))))) ?_
      by_cases h70 : form[i] = 70
      · rw [if_pos h70] at ex
        refine Ev.congr (fun k => if_pos (by rw [h70]; rfl)) ?_
        have hin : impl_in.f v 0 3000 = some (decide (0 ≤ v ∧ v ≤ 3000)) := by
          unfold impl_in.f
          by_cases g1 : v ≥ 0
          · rw [if_pos g1]; congr 1; by_cases g2 : v ≤ 3000
            · rw [decide_eq_true g2, decide_eq_true ⟨g1, g2⟩]
            · rw [decide_eq_false g2, decide_eq_false (fun h => g2 h.2)]
          · rw [if_neg g1, decide_eq_false (fun h => g1 h.1)]
        by_cases g : 0 ≤ v ∧ v ≤ 3000
        · rw [if_pos g] at ex
          exact Ev.congr (fun k => by rw [hin, Option.bind_some, decide_eq_true g, if_pos rfl]) (nx _ ex g.1 g.2)
        · rw [if_neg g] at ex
          rw [← no ex]
          exact Ev.congr (f := fun _ => some bad) (fun k => by rw [hin, Option.bind_some, decide_eq_false g, if_neg (by decide)]) (Ev.now _)
      · rw [if_neg h70] at ex
        exact Ev.congr (fun k => if_neg (fun c => h70 (UInt8.toNat_inj.1 (show form[i].toNat = (70 : UInt8).toNat from (Int.ofNat_inj.1 c : form[i].toNat = 70))))) (nx _ ex f0 f1)
theorem mapM_size {a : List ByteArray} : True := trivial
/-- The numbers of a line of 'arm' or 'crash'. -/
theorem impl_nums (w : ByteArray) (a : List ByteArray) (ha : a.length ≤ 1048576) (hs : ∀ f ∈ a, f.size ≤ 1048576) (hw : w.data.toList = wArm ∨ w.data.toList = wCrash) :
    ∀ (e i : Nat), i + e = a.length → ∀ ns : List Int, ns.length = i → Ev (fun k => impl_ParseLine.l1 k w a (a.length : Int) (i : Int) 0 0 eB eB 0 0 0 eB ns)
      (match (a.drop i).mapM nm with | none => bad | some ms => if (w.data.toList == wArm) = true then (if ((ns ++ ms).length : Int) - 1 < 0 then bad else if rd (ns ++ ms) 0 < 1 then bad else if ((ns ++ ms).length : Int) - 1 > 600 then bad else (4, 0, eB, eB, 0, 0, 0, eB, ns ++ ms)) else (if ((ns ++ ms).length : Int) > 600 then bad else (5, 0, eB, eB, 0, 0, 0, eB, ns ++ ms))) := by
  intro e
  induction e with
  | zero =>
    intro i hi ns hn
    rw [List.drop_eq_nil_of_le (by omega), List.mapM_nil]
    simp only [pure, List.append_nil]
    have e1 : wrap64 ((ns.length : Int) - 1) = (ns.length : Int) - 1 := w64 (by omega) (by omega)
    have st : ∀ k, impl_ParseLine.l1 (k + 1) w a (a.length : Int) (i : Int) 0 0 eB eB 0 0 0 eB ns = if w.toList = wArm then (if (ns.length : Int) - 1 < 0 then (impl_ParseLine.j5 k ((ns.length : Int) - 1) true 4 0 eB eB 0 0 0 eB ns) else (if 0 < (ns.length : Int) then (impl_ParseLine.j5 k ((ns.length : Int) - 1) (decide ((rd ns 0) < 1)) 4 0 eB eB 0 0 0 eB ns) else none)) else (if (ns.length : Int) > 600 then some bad else some (5, 0, eB, eB, 0, 0, 0, eB, ns)) := fun k => by
      simp only [impl_ParseLine.l1]
      rw [if_neg (by omega), e1]; rfl
    rw [tl_list] at st
    by_cases hA : w.data.toList = wArm
    · rw [if_pos (beq_iff_eq.2 hA)]
      have st' : ∀ k, _ = _ := fun k => (st k).trans (if_pos hA)
      by_cases h1 : (ns.length : Int) - 1 < 0
      · rw [if_pos h1]
        exact Ev.step (fun k => (st' k).trans (if_pos h1)) (Ev.step (f := fun _ => some bad) (fun k => by simp only [impl_ParseLine.j5]; rw [if_pos trivial]; rfl) (Ev.now _))
      rw [if_neg h1]
      refine Ev.step (fun k => (st' k).trans ((if_neg h1).trans (if_pos (by omega)))) ?_
      by_cases h2 : rd ns 0 < 1
      · rw [if_pos h2, decide_eq_true h2]
        exact Ev.step (f := fun _ => some bad) (fun k => by simp only [impl_ParseLine.j5]; rw [if_pos trivial]; rfl) (Ev.now _)
      rw [if_neg h2, decide_eq_false h2]
      by_cases h3 : (ns.length : Int) - 1 > 600
      · rw [if_pos h3]
        exact Ev.step (f := fun _ => some bad) (fun k => by simp only [impl_ParseLine.j5]; rw [if_neg (by decide), if_pos h3]; rfl) (Ev.now _)
      · rw [if_neg h3]
        exact Ev.step (f := fun _ => some _) (fun k => by simp only [impl_ParseLine.j5]; rw [if_neg (by decide), if_neg h3]) (Ev.now _)
    · rw [if_neg (fun c => hA (beq_iff_eq.1 c))]
      have st' : ∀ k, _ = _ := fun k => (st k).trans (if_neg hA)
      by_cases h1 : (ns.length : Int) > 600
      · rw [if_pos h1]
        exact Ev.step (f := fun _ => some bad) (fun k => (st' k).trans (if_pos h1)) (Ev.now _)
      · rw [if_neg h1]
        exact Ev.step (f := fun _ => some _) (fun k => (st' k).trans (if_neg h1)) (Ev.now _)
  | succ e ih =>
    intro i hi ns hn
    have hia : i < a.length := by omega
    have ei : wrap64 ((i : Int) + 1) = ((i + 1 : Nat) : Int) := by rw [w64 (by omega) (by omega)]; rfl
    rw [List.drop_eq_getElem_cons hia, List.mapM_cons]
    refine Ev.step (f := fun k => (impl_number.f k a[i]).bind fun bt302 => (if bt302.2 = true then (impl_ParseLine.l1 k w a (a.length : Int) ((i + 1 : Nat) : Int) 0 0 eB eB 0 0 0 eB (ns ++ [bt302.1])) else some bad)) (fun k => ?_) ((impl_num a[i] (sizeLe hs i hia)).bind ?_)
    · simp only [impl_ParseLine.l1]
      rw [if_pos (by omega), if_pos (by omega), if_pos (by omega), rdS a i hia, ei]
      simp only [show (ns.length < 17592186044416) = True from eq_true (by omega), ↓reduceIte]
      rfl
    unfold nv nb
    cases hnm : nm a[i] with
    | none => exact Ev.congr (f := fun _ => some bad) (fun k => if_neg (by decide)) (Ev.now _)
    | some v =>
      have := ih (i + 1) (by omega) (ns ++ [v]) (by rw [List.length_append, hn]; rfl)
      refine Ev.congr (fun k => if_pos rfl) ?_
      dsimp only [Option.getD_some]
      cases hm : (a.drop (i + 1)).mapM nm with
      | none => rw [hm] at this; exact this
      | some ms =>
        rw [hm] at this
        dsimp only at this
        rw [List.append_assoc, List.singleton_append] at this
        exact this
theorem st0_l2 : True := trivial
theorem form_le (w : ByteArray) : (Shp.form w).size ≤ 4 := by
  have key : ∀ x ∈ Shp.words, x.2.2.length ≤ 4 := by decide
  unfold Shp.form Shp.find
  cases h : Shp.words.find? (fun x => x.1 == w.data.toList) with
  | none => decide
  | some x =>
    have := key x (List.mem_of_find?_eq_some h)
    simp only [Option.map_some]
    show x.2.2.toArray.size ≤ 4
    rw [List.size_toArray]; exact this
/-- A line's word and fields, by the program. -/
theorem impl_ans (w : ByteArray) (a : List ByteArray) (hw : w.size ≤ 1048576) (ha : a.length ≤ 1048576) (hs : ∀ f ∈ a, f.size ≤ 1048576) (x : Bool) (hx : x = decide (w.data.toList = wTree ∨ w.data.toList = wCheck ∨ w.data.toList = wMount)) : Ev (fun k => impl_ParseLine.j2 k a w w x) (ans w a) := by
  subst hx
  unfold ans
  have stop : ∀ (k0 : Int) (fm : ByteArray), Ev (fun k => impl_ParseLine.j6 k a true k0 fm) bad := fun k0 fm => Ev.step (f := fun _ => some bad) (fun k => by simp only [impl_ParseLine.j6]; rw [if_pos trivial]; rfl) (Ev.now _)
  by_cases h1 : w.data.toList = wTree ∨ w.data.toList = wCheck ∨ w.data.toList = wMount
  · rw [decide_eq_true h1, if_pos h1]
    by_cases h2 : (a.length : Int) > 0
    · rw [if_pos h2]
      exact Ev.step (f := fun _ => some bad) (fun k => by simp only [impl_ParseLine.j2]; rw [if_pos trivial, if_pos h2]; rfl) (Ev.now _)
    · rw [if_neg h2]
      refine Ev.step (f := fun _ => some (Shp.three w, 0, eB, eB, 0, 0, 0, eB, [])) (fun k => ?_) (Ev.now _)
      simp only [impl_ParseLine.j2]
      rw [if_pos trivial, if_neg h2]
      unfold Shp.threeO
      rw [if_pos hw]; rfl
  rw [decide_eq_false h1, if_neg h1]
  have j3 : ∀ y : Bool, y = decide (w.data.toList = wArm ∨ w.data.toList = wCrash) → Ev (fun k => impl_ParseLine.j3 k a w y) (if w.data.toList = wArm ∨ w.data.toList = wCrash then numsR (w.data.toList == wArm) a else if Shp.kind w = 0 ∨ a.length ≠ (Shp.form w).size then bad else endF (Shp.kind w) (runF (Shp.form w).data.toList a st0)) := by
    intro y hy
    subst hy
    by_cases h2 : w.data.toList = wArm ∨ w.data.toList = wCrash
    · rw [decide_eq_true h2, if_pos h2]
      refine Ev.step (f := fun k => impl_ParseLine.l1 k w a (a.length : Int) ((0 : Nat) : Int) 0 0 eB eB 0 0 0 eB []) (fun k => by simp only [impl_ParseLine.j3]; rw [if_pos trivial]; rfl) ?_
      exact impl_nums w a ha hs h2 a.length 0 (by omega) [] rfl
    rw [decide_eq_false h2, if_neg h2]
    refine Ev.step (f := fun k => (if Shp.kind w = 0 then (impl_ParseLine.j6 k a true (Shp.kind w) (Shp.form w)) else (impl_ParseLine.j6 k a ((a.length : Int) != ((Shp.form w).size : Int)) (Shp.kind w) (Shp.form w)))) (fun k => ?_) ?_
    · simp only [impl_ParseLine.j3]
      rw [if_neg (by decide)]
      unfold Shp.formO Shp.kindO
      rw [if_pos hw, if_pos hw]; rfl
    by_cases h3 : Shp.kind w = 0
    · rw [if_pos (.inl h3)]
      exact Ev.congr (fun k => if_pos h3) (stop _ _)
    refine Ev.congr (fun k => if_neg h3) ?_
    by_cases h4 : a.length = (Shp.form w).size
    · rw [if_neg (fun h => h.elim h3 (fun h => h h4)), show ((a.length : Int) != ((Shp.form w).size : Int)) = false by rw [h4]; simp]
      have := impl_run (Shp.kind w) (Shp.form w) a h4 (by rw [h4]; exact Nat.le_trans (form_le w) (by omega)) hs a.length 0 (by omega) st0 (by decide) (by decide)
      exact Ev.step (fun k => by simp only [impl_ParseLine.j6]; rw [if_neg (by decide)]; rfl) this
    · rw [if_pos (.inr h4), show ((a.length : Int) != ((Shp.form w).size : Int)) = true from bne_iff_ne.2 (fun c => h4 (Int.ofNat_inj.1 c))]
      exact stop _ _
  by_cases h2 : w.data.toList = wArm
  · exact Ev.step (f := fun k => impl_ParseLine.j3 k a w true) (fun k => by simp only [impl_ParseLine.j2]; rw [if_neg (by decide), tl_list]; show (if w.data.toList = wArm then impl_ParseLine.j3 k a w (w.data.toList == wArm) else _) = _; rw [if_pos h2, beq_iff_eq.2 h2]) (j3 true (decide_eq_true (.inl h2)).symm)
  · refine Ev.step (f := fun k => impl_ParseLine.j3 k a w (w.data.toList == wCrash)) (fun k => by simp only [impl_ParseLine.j2]; rw [if_neg (by decide), tl_list]; show (if w.data.toList = wArm then _ else impl_ParseLine.j3 k a w (w.data.toList == wCrash)) = _; rw [if_neg h2]) (j3 _ ?_)
    by_cases h3 : w.data.toList = wCrash
    · rw [decide_eq_true (.inr h3), beq_iff_eq.2 h3]
    · rw [decide_eq_false (fun h => h.elim h2 h3), beq_eq_false_iff_ne.2 h3]
theorem fields_le (s : ByteArray) : (fields s).length ≤ s.size + 1 := by
  have h1 : 1 ≤ sp.size := by decide
  have := Lib.countB_le sp h1 s.size s (Nat.le_refl _)
  have e : (fields s).length = Lib.countB s sp + 1 := Lib.splitB_all sp h1 0 _ s rfl
  omega
theorem impl_fields (fs : List ByteArray) (hl : fs.length ≤ 1048576) (h0 : 0 < fs.length) (hs : ∀ f ∈ fs, f.size ≤ 1048576) : ∀ (e i : Nat), i + e = fs.length → (∀ j (h : j < fs.length), j < i → (fs[j]).data.toList ≠ []) → Ev (fun k => impl_ParseLine.l0 k fs fs (fs.length : Int) (i : Int)) (ansL fs) := by
  intro e
  induction e with
  | zero =>
    intro i hi hne
    cases fs with
    | nil => simp at h0
    | cons w a =>
      have hw : w.size ≤ 1048576 := hs w (by simp)
      have hs' : ∀ f ∈ a, f.size ≤ 1048576 := fun f h => hs f (by simp [h])
      have ha : a.length ≤ 1048576 := by simp at hl; omega
      have hany : ¬ (w :: a).any (fun f => f.data.toList.isEmpty) = true := by
        intro h
        obtain ⟨f, hf, h2⟩ := List.any_eq_true.1 h
        obtain ⟨j, hj, rfl⟩ := List.getElem_of_mem hf
        exact hne j hj (by omega) (List.isEmpty_iff.1 h2)
      rw [show ansL (w :: a) = ans w a from if_neg hany]
      have hd : (w :: a).drop 1 = a := rfl
      have e0 : rdOf ByteArray.empty (w :: a) 0 = w := rfl
      have st : ∀ k, impl_ParseLine.l0 (k + 1) (w :: a) (w :: a) ((w :: a).length : Int) (i : Int) = if w.data.toList = wTree then impl_ParseLine.j2 k a w w (w.data.toList == wTree) else if w.data.toList = wCheck then impl_ParseLine.j2 k a w w (w.data.toList == wCheck) else impl_ParseLine.j2 k a w w (w.data.toList == wMount) := fun k => by
        simp only [impl_ParseLine.l0]
        rw [if_neg (by omega), if_pos (by omega), if_pos (by omega), e0, tl_list]; rfl
      by_cases h1 : w.data.toList = wTree
      · exact Ev.step (fun k => (st k).trans (if_pos h1)) (impl_ans w a hw ha hs' _ (by rw [decide_eq_true (.inl h1)]; exact beq_iff_eq.2 h1))
      by_cases h2 : w.data.toList = wCheck
      · exact Ev.step (fun k => (st k).trans ((if_neg h1).trans (if_pos h2))) (impl_ans w a hw ha hs' _ (by rw [decide_eq_true (.inr (.inl h2))]; exact beq_iff_eq.2 h2))
      refine Ev.step (fun k => (st k).trans ((if_neg h1).trans (if_neg h2))) (impl_ans w a hw ha hs' _ ?_)
      by_cases h3 : w.data.toList = wMount
      · rw [decide_eq_true (.inr (.inr h3))]; exact beq_iff_eq.2 h3
      · rw [decide_eq_false (fun h => h.elim h1 (fun h => h.elim h2 h3))]; exact beq_eq_false_iff_ne.2 h3
  | succ e ih =>
    intro i hi hne
    have hia : i < fs.length := by omega
    have ei : wrap64 ((i : Int) + 1) = ((i + 1 : Nat) : Int) := by rw [w64 (by omega) (by omega)]; rfl
    have st : ∀ k, impl_ParseLine.l0 (k + 1) fs fs (fs.length : Int) (i : Int) = if (fs[i]).data.toList = [] then some bad else impl_ParseLine.l0 k fs fs (fs.length : Int) ((i + 1 : Nat) : Int) := fun k => by
      simp only [impl_ParseLine.l0]
      rw [if_pos (by omega), if_pos (by omega), if_pos (by omega), rdS fs i hia, tl_list, ei]; rfl
    by_cases h : (fs[i]).data.toList = []
    · have : ansL fs = bad := by
        cases fs with
        | nil => rfl
        | cons w a =>
          unfold ansL
          exact if_pos (List.any_eq_true.2 ⟨(w :: a)[i], List.getElem_mem _, List.isEmpty_iff.2 h⟩)
      rw [this]
      exact Ev.step (f := fun _ => some bad) (fun k => (st k).trans (if_pos h)) (Ev.now _)
    · refine Ev.step (fun k => (st k).trans (if_neg h)) (ih (i + 1) (by omega) (fun j hj h2 => ?_))
      rcases Nat.lt_or_eq_of_le (Nat.le_of_lt_succ h2) with h3 | rfl
      · exact hne j hj h3
      · exact h
theorem impl_parse (l : List Int) (hl : l.length ≤ 1048576) : Ev (fun k => impl_ParseLine.f k l) (parse (strOfNums l)) := by
  generalize hS : strOfNums l = s
  have hsz : s.size ≤ 1048576 := by rw [← hS, strOfNums_size]; exact hl
  unfold parse
  have stop : Ev (fun k => impl_ParseLine.j0 k s true) bad := Ev.step (f := fun _ => some bad) (fun k => by simp only [impl_ParseLine.j0]; rw [if_pos trivial]; rfl) (Ev.now _)
  by_cases h1 : s.size > 65536
  · rw [if_pos h1]
    exact Ev.congr (fun k => by unfold impl_ParseLine.f; rw [hS, if_pos (by omega)]) stop
  rw [if_neg h1]
  refine Ev.congr (f := fun k => impl_ParseLine.j0 k s (s.data.toList == ([] : List UInt8))) (fun k => by unfold impl_ParseLine.f; rw [hS, if_neg (by omega), tl_list]) ?_
  by_cases h2 : s.data.toList = []
  · rw [if_pos h2, beq_iff_eq.2 h2]; exact stop
  rw [if_neg h2, beq_eq_false_iff_ne.2 h2]
  have hfl := fields_le s
  have h0 : 0 < (fields s).length := by
    have e : (fields s).length = Lib.countB s sp + 1 := Lib.splitB_all sp (by decide) 0 _ s rfl
    omega
  refine Ev.step (f := fun k => impl_ParseLine.l0 k (fields s) (fields s) ((fields s).length : Int) ((0 : Nat) : Int)) (fun k => ?_) (impl_fields (fields s) (by omega) h0 (fun f hf => split_small sp 1048576 _ s hsz f hf) (fields s).length 0 (by omega) (fun j hj h => absurd h (by omega)))
  simp only [impl_ParseLine.j0]
  rw [if_neg (by decide)]
  unfold strings_Split.f
  rw [if_pos ⟨hsz, rfl⟩]; rfl
abbrev R8 := Int × ByteArray × ByteArray × Int × Int × Int × ByteArray × Bool
def no8 : R8 := (0, eB, eB, 0, 0, 0, eB, false)
def g (fs : List ByteArray) (i : Int) : ByteArray := rdOf ByteArray.empty fs i
def wd (fs : List ByteArray) : List UInt8 := (g fs 0).data.toList
theorem g_nat (fs : List ByteArray) (i : Nat) (h : i < fs.length) : rdOf ByteArray.empty fs (i : Int) = fs[i] := rdS fs i h
theorem g_le {fs : List ByteArray} (hs : ∀ f ∈ fs, f.size ≤ 1048576) (i : Nat) (h : i < fs.length) : (g fs (i : Int)).size ≤ 1048576 := by
  unfold g; rw [rdS fs i h]; exact hs _ (List.getElem_mem _)
def R0 (fs : List ByteArray) : R8 := (5, g fs 1, g fs 2, 0, 0, 0, eB, true)
def R1 (fs : List ByteArray) : R8 := (9, g fs 1, g fs 2, 0, 0, 0, eB, true)
def R2 (fs : List ByteArray) : R8 := (10, g fs 1, g fs 2, 0, 0, 0, eB, true)
def R3 (fs : List ByteArray) : R8 := (8, g fs 1, eB, 0, 0, 0, (uq (g fs 2)).2, (uq (g fs 2)).1)
def R4 (fs : List ByteArray) : R8 := (6, g fs 1, eB, 0, nv (g fs 2), 0, (uq (g fs 3)).2, if nb (g fs 2) = true then (uq (g fs 3)).1 else false)
def R5 (fs : List ByteArray) : R8 := (if nb (g fs 2) = true ∧ nb (g fs 3) = true ∧ 0 ≤ nv (g fs 3) ∧ nv (g fs 3) ≤ 3000 then (6, g fs 1, eB, 0, nv (g fs 2), 0, strOfNums (letL (nv (g fs 3)).toNat (bt (g fs 4) 0).toNat), true) else no8)
def R6 (fs : List ByteArray) : R8 := (7, g fs 1, eB, 0, 0, nv (g fs 2), eB, nb (g fs 2))
def R7 (fs : List ByteArray) : R8 := (17, g fs 1, eB, 0, nv (g fs 2), nv (g fs 3), eB, if nb (g fs 2) = true then nb (g fs 3) else false)
def C8 (_fs : List ByteArray) : R8 := no8
def C7 (fs : List ByteArray) : R8 := if wd fs = [114, 101, 97, 100] ∧ (fs.length : Int) = 4 then R7 fs else C8 fs
def C6 (fs : List ByteArray) : R8 := if wd fs = [116, 114, 117, 110, 99] ∧ (fs.length : Int) = 3 then R6 fs else C7 fs
def C5 (fs : List ByteArray) : R8 := if wd fs = [102, 105, 108, 108] ∧ (fs.length : Int) = 5 ∧ (g fs 4).size = 1 ∧ 97 ≤ bt (g fs 4) 0 ∧ bt (g fs 4) 0 ≤ 122 then R5 fs else C6 fs
def C4 (fs : List ByteArray) : R8 := if wd fs = [119, 114, 105, 116, 101] ∧ (fs.length : Int) = 4 then R4 fs else C5 fs
def C3 (fs : List ByteArray) : R8 := if wd fs = [97, 112, 112, 101, 110, 100] ∧ (fs.length : Int) = 3 then R3 fs else C4 fs
def C2 (fs : List ByteArray) : R8 := if wd fs = [115, 121, 109, 108, 105, 110, 107] ∧ (fs.length : Int) = 3 then R2 fs else C3 fs
def C1 (fs : List ByteArray) : R8 := if wd fs = [108, 105, 110, 107] ∧ (fs.length : Int) = 3 then R1 fs else C2 fs
def C0 (fs : List ByteArray) : R8 := if wd fs = [114, 101, 110, 97, 109, 101] ∧ (fs.length : Int) = 3 then R0 fs else C1 fs
def HR0 (fs : List ByteArray) (h : Int) : R8 := (13, eB, eB, h, 0, 0, eB, true)
def HR1 (fs : List ByteArray) (h : Int) : R8 := (16, eB, eB, h, 0, 0, eB, true)
def HR2 (fs : List ByteArray) (h : Int) : R8 := (12, eB, eB, h, 0, nv (g fs 2), eB, nb (g fs 2))
def HR3 (fs : List ByteArray) (h : Int) : R8 := (15, eB, eB, h, nv (g fs 2), nv (g fs 3), eB, if nb (g fs 2) = true then nb (g fs 3) else false)
def HR4 (fs : List ByteArray) (h : Int) : R8 := (11, eB, eB, h, nv (g fs 2), 0, (uq (g fs 3)).2, if nb (g fs 2) = true then (uq (g fs 3)).1 else false)
def HC5 (_fs : List ByteArray) (h : Int) : R8 := (0, eB, eB, h, 0, 0, eB, false)
def HC4 (fs : List ByteArray) (h : Int) : R8 := if wd fs = [112, 119, 114, 105, 116, 101] ∧ (fs.length : Int) = 4 then HR4 fs h else HC5 fs h
def HC3 (fs : List ByteArray) (h : Int) : R8 := if wd fs = [112, 114, 101, 97, 100] ∧ (fs.length : Int) = 4 then HR3 fs h else HC4 fs h
def HC2 (fs : List ByteArray) (h : Int) : R8 := if wd fs = [102, 116, 114, 117, 110, 99] ∧ (fs.length : Int) = 3 then HR2 fs h else HC3 fs h
def HC1 (fs : List ByteArray) (h : Int) : R8 := if wd fs = [102, 115, 116, 97, 116] ∧ (fs.length : Int) = 2 then HR1 fs h else HC2 fs h
def HC0 (fs : List ByteArray) (h : Int) : R8 := if wd fs = [99, 108, 111, 115, 101] ∧ (fs.length : Int) = 2 then HR0 fs h else HC1 fs h
theorem spec_letters_loop (n c : Nat) (h1 : 97 ≤ c) (h2 : c ≤ 122) (hn : n ≤ 3000) : ∀ (e j : Nat), j + e = n → Ev (fun k => spec_l14Letters.l0 k (n : Int) (c : Int) ((letL n c).take j) (j : Int)) (strOfNums (letL n c)) := by
  intro e
  induction e with
  | zero =>
    intro j hj
    rw [List.take_of_length_le (by rw [letL_len]; omega)]
    exact Ev.step (f := fun _ => some _) (fun k => by simp only [spec_l14Letters.l0]; rw [if_neg (by omega)]) (Ev.now _)
  | succ e ih =>
    intro j hj
    have ej : wrap64 ((j : Int) + 1) = ((j + 1 : Nat) : Int) := by rw [w64 (by omega) (by omega)]; rfl
    have hlen : ((letL n c).take j).length < 140737488355328 := by rw [List.length_take]; omega
    have hv : (wrap64 (97 + (Int.tmod (wrap64 ((((c : Int) - 97) % 256) + (j : Int))) 26))) % 256 = ((97 + (c - 97 + j) % 26 : Nat) : Int) := by
      have e1 : wrap64 ((((c : Int) - 97) % 256) + (j : Int)) = ((c - 97 + j : Nat) : Int) := by rw [w64 (by omega) (by omega)]; omega
      rw [e1, Int.tmod_eq_emod_of_nonneg (by omega), w64 (by omega) (by omega)]; omega
    have ht : (letL n c).take (j + 1) = (letL n c).take j ++ [((97 + (c - 97 + j) % 26 : Nat) : Int)] := by
      rw [List.take_succ_eq_append_getElem (by rw [letL_len]; omega)]; simp [letL]
    have := ih (j + 1) (by omega)
    rw [ht] at this
    refine Ev.step (fun k => ?_) this
    simp only [spec_l14Letters.l0]
    rw [if_pos (by omega), if_pos hlen, hv, ej]
theorem spec_letters (v b : Int) (h0 : 0 ≤ v) (h1 : v ≤ 3000) (h2 : 97 ≤ b) (h3 : b ≤ 122) : Ev (fun k => spec_l14Letters.f k v b) (strOfNums (letL v.toNat b.toNat)) := by
  have := spec_letters_loop v.toNat b.toNat (by omega) (by omega) (by omega) v.toNat 0 (by omega)
  rw [Int.toNat_of_nonneg h0, Int.toNat_of_nonneg (show 0 ≤ b by omega)] at this
  exact this
section
variable (fs : List ByteArray) (h0 : 0 < fs.length) (hs : ∀ f ∈ fs, f.size ≤ 1048576)
include h0 hs
theorem L7 (b : Bool) (hb : b = true → (fs.length : Int) = 4) : Ev (fun k => spec_l14Long.j7 k fs b) (if b = true then R7 fs else C8 fs) := by
  cases b with
  | true =>
    have hn := hb rfl
    rw [if_pos rfl]
    refine Ev.step (f := fun k => (spec_l14Number.f k (g fs 2)).bind fun bt199 => (if 3 < (fs.length : Int) then ((spec_l14Number.f k (g fs 3)).bind fun bt202 => (if 1 < (fs.length : Int) then (if bt199.2 = true then (some (17, g fs 1, eB, 0, bt199.1, bt202.1, eB, bt202.2)) else (some (17, g fs 1, eB, 0, bt199.1, bt202.1, eB, false))) else none)) else none)) (fun k => by simp only [spec_l14Long.j7]; rw [if_pos trivial, if_pos (by omega)]; rfl) ((spec_num (g fs 2) (g_le hs 2 (by omega))).bind ?_)
    refine Ev.congr (fun k => if_pos (by omega)) ((spec_num (g fs 3) (g_le hs 3 (by omega))).bind (Ev.congr (fun k => if_pos (by omega)) ?_))
    unfold R7
    by_cases h : nb (g fs 2) = true
    · rw [if_pos h, if_pos h]; exact Ev.now _
    · rw [if_neg h, if_neg h]; exact Ev.now _
  | false =>
    rw [if_neg (by decide)]
    exact Ev.step (f := fun _ => some no8) (fun k => by simp only [spec_l14Long.j7]; rw [if_neg (by decide)]; rfl) (Ev.now _)
theorem L6 (b : Bool) (hb : b = true → (fs.length : Int) = 3) : Ev (fun k => spec_l14Long.j6 k fs b) (if b = true then R6 fs else C7 fs) := by
  cases b with
  | true =>
    have hn := hb rfl
    rw [if_pos rfl]
    refine Ev.step (f := fun k => (spec_l14Number.f k (g fs 2)).bind fun bt194 => (if 1 < (fs.length : Int) then (some (7, g fs 1, eB, 0, 0, bt194.1, eB, bt194.2)) else none)) (fun k => by simp only [spec_l14Long.j6]; rw [if_pos trivial, if_pos (by omega)]; rfl) ((spec_num (g fs 2) (g_le hs 2 (by omega))).bind ?_)
    exact Ev.congr (fun k => if_pos (by omega)) (Ev.now _)
  | false =>
    rw [if_neg (by decide)]
    by_cases h : wd fs = [114, 101, 97, 100]
    · refine Ev.step (f := fun k => spec_l14Long.j7 k fs ((fs.length : Int) == 4)) (fun k => by simp only [spec_l14Long.j6]; rw [if_neg (by decide), if_pos (by omega), tl_list]; exact if_pos h) ?_
      have := L7 fs h0 hs ((fs.length : Int) == 4) (fun e => beq_iff_eq.1 e)
      by_cases hn : (fs.length : Int) = 4
      · rw [if_pos (beq_iff_eq.2 hn)] at this; rw [C7, if_pos ⟨h, hn⟩]; exact this
      · rw [if_neg (fun e => hn (beq_iff_eq.1 e))] at this; rw [C7, if_neg (fun e => hn e.2)]; exact this
    · refine Ev.step (f := fun k => spec_l14Long.j7 k fs false) (fun k => by simp only [spec_l14Long.j6]; rw [if_neg (by decide), if_pos (by omega), tl_list]; exact if_neg h) ?_
      have := L7 fs h0 hs false (fun e => by cases e)
      rw [if_neg (by decide)] at this; rw [C7, if_neg (fun e => h e.1)]; exact this
theorem L5 (b : Bool) (hb : b = true → (fs.length : Int) = 5 ∧ (g fs 4).size = 1 ∧ 97 ≤ bt (g fs 4) 0 ∧ bt (g fs 4) 0 ≤ 122) : Ev (fun k => spec_l14Long.j5 k fs b) (if b = true then R5 fs else C6 fs) := by
  cases b with
  | true =>
    have hn := hb rfl
    rw [if_pos rfl]
    refine Ev.step (f := fun k => (spec_l14Number.f k (g fs 2)).bind fun bt184 => (if 3 < (fs.length : Int) then ((spec_l14Number.f k (g fs 3)).bind fun bt187 => (if bt184.2 = true then (if bt187.2 = true then (if bt187.1 < 0 then some no8 else (if bt187.1 > 3000 then some no8 else (if 1 < (fs.length : Int) then (if 4 < (fs.length : Int) then (if 0 < ((g fs 4).size : Int) then ((spec_l14Letters.f k bt187.1 (bt (g fs 4) 0)).bind fun t191 => (some (6, g fs 1, eB, 0, bt184.1, 0, t191, true))) else none) else none) else none))) else some no8) else some no8)) else none)) (fun k => by simp only [spec_l14Long.j5]; rw [if_pos trivial, if_pos (by omega)]; rfl) ((spec_num (g fs 2) (g_le hs 2 (by omega))).bind ?_)
    refine Ev.congr (fun k => if_pos (by omega)) ((spec_num (g fs 3) (g_le hs 3 (by omega))).bind ?_)
    unfold R5
    by_cases h2 : nb (g fs 2) = true
    rotate_left
    · rw [if_neg (fun h => h2 h.1)]; exact Ev.congr (fun k => if_neg h2) (Ev.now _)
    refine Ev.congr (fun k => if_pos h2) ?_
    by_cases h3 : nb (g fs 3) = true
    rotate_left
    · rw [if_neg (fun h => h3 h.2.1)]; exact Ev.congr (fun k => if_neg h3) (Ev.now _)
    refine Ev.congr (fun k => if_pos h3) ?_
    by_cases h4 : nv (g fs 3) < 0
    · rw [if_neg (fun h => by have := h.2.2.1; omega)]; exact Ev.congr (fun k => if_pos h4) (Ev.now _)
    refine Ev.congr (fun k => if_neg h4) ?_
    by_cases h5 : nv (g fs 3) > 3000
    · rw [if_neg (fun h => by have := h.2.2.2; omega)]; exact Ev.congr (fun k => if_pos h5) (Ev.now _)
    refine Ev.congr (fun k => if_neg h5) (Ev.congr (fun k => if_pos (by omega)) (Ev.congr (fun k => if_pos (by omega)) (Ev.congr (fun k => if_pos (by omega)) ?_)))
    rw [if_pos ⟨h2, h3, by omega, by omega⟩]
    exact (spec_letters (nv (g fs 3)) (bt (g fs 4) 0) (by omega) (by omega) (by omega) (by omega)).bind (Ev.now _)
  | false =>
    rw [if_neg (by decide)]
    by_cases h : wd fs = [116, 114, 117, 110, 99]
    · refine Ev.step (f := fun k => spec_l14Long.j6 k fs ((fs.length : Int) == 3)) (fun k => by simp only [spec_l14Long.j5]; rw [if_neg (by decide), if_pos (by omega), tl_list]; exact if_pos h) ?_
      have := L6 fs h0 hs ((fs.length : Int) == 3) (fun e => beq_iff_eq.1 e)
      by_cases hn : (fs.length : Int) = 3
      · rw [if_pos (beq_iff_eq.2 hn)] at this; rw [C6, if_pos ⟨h, hn⟩]; exact this
      · rw [if_neg (fun e => hn (beq_iff_eq.1 e))] at this; rw [C6, if_neg (fun e => hn e.2)]; exact this
    · refine Ev.step (f := fun k => spec_l14Long.j6 k fs false) (fun k => by simp only [spec_l14Long.j5]; rw [if_neg (by decide), if_pos (by omega), tl_list]; exact if_neg h) ?_
      have := L6 fs h0 hs false (fun e => by cases e)
      rw [if_neg (by decide)] at this; rw [C6, if_neg (fun e => h e.1)]; exact this
theorem L4 (b : Bool) (hb : b = true → (fs.length : Int) = 4) : Ev (fun k => spec_l14Long.j4 k fs b) (if b = true then R4 fs else C5 fs) := by
  cases b with
  | true =>
    have hn := hb rfl
    rw [if_pos rfl]
    refine Ev.step (f := fun k => (spec_l14Number.f k (g fs 2)).bind fun bt172 => (if 3 < (fs.length : Int) then ((spec_Unquote.f k (g fs 3)).bind fun bt175 => (if 1 < (fs.length : Int) then (if bt172.2 = true then (some (6, g fs 1, eB, 0, bt172.1, 0, bt175.2, bt175.1)) else (some (6, g fs 1, eB, 0, bt172.1, 0, bt175.2, false))) else none)) else none)) (fun k => by simp only [spec_l14Long.j4]; rw [if_pos trivial, if_pos (by omega)]; rfl) ((spec_num (g fs 2) (g_le hs 2 (by omega))).bind ?_)
    refine Ev.congr (fun k => if_pos (by omega)) ((spec_uq (g fs 3) (g_le hs 3 (by omega))).bind (Ev.congr (fun k => if_pos (by omega)) ?_))
    unfold R4
    by_cases h : nb (g fs 2) = true
    · rw [if_pos h, if_pos h]; exact Ev.now _
    · rw [if_neg h, if_neg h]; exact Ev.now _
  | false =>
    rw [if_neg (by decide), C5]
    have L := L5 fs h0 hs false (fun e => by cases e)
    rw [if_neg (by decide)] at L
    have st : ∀ k, spec_l14Long.j4 (k + 1) fs false = (if wd fs = [102, 105, 108, 108] then (if (fs.length : Int) = 5 then (if 4 < (fs.length : Int) then (if ((g fs 4).size : Int) = 1 then (if 0 < ((g fs 4).size : Int) then (if (bt (g fs 4) 0) ≥ 97 then (spec_l14Long.j5 k fs (decide ((bt (g fs 4) 0) ≤ 122))) else (spec_l14Long.j5 k fs false)) else none) else (spec_l14Long.j5 k fs false)) else none) else (spec_l14Long.j5 k fs false)) else (spec_l14Long.j5 k fs false)) := fun k => by
      simp only [spec_l14Long.j4]; rw [if_neg (by decide), if_pos (by omega), tl_list]; rfl
    by_cases h : wd fs = [102, 105, 108, 108]
    rotate_left
    · rw [if_neg (fun e => h e.1)]; exact Ev.step (fun k => (st k).trans (if_neg h)) L
    have st := fun k => (st k).trans (if_pos h)
    by_cases hn : (fs.length : Int) = 5
    rotate_left
    · rw [if_neg (fun e => hn e.2.1)]; exact Ev.step (fun k => (st k).trans (if_neg hn)) L
    have st := fun k => (st k).trans ((if_pos hn).trans (if_pos (by omega)))
    by_cases h4 : ((g fs 4).size : Int) = 1
    rotate_left
    · rw [if_neg (fun e => h4 (by rw [e.2.2.1]; rfl))]; exact Ev.step (fun k => (st k).trans (if_neg h4)) L
    have st := fun k => (st k).trans ((if_pos h4).trans (if_pos (by omega)))
    by_cases h5 : bt (g fs 4) 0 ≥ 97
    rotate_left
    · rw [if_neg (fun e => h5 e.2.2.2.1)]; exact Ev.step (fun k => (st k).trans (if_neg h5)) L
    have st := fun k => (st k).trans (if_pos h5)
    by_cases h6 : bt (g fs 4) 0 ≤ 122
    · have L := L5 fs h0 hs true (fun _ => ⟨hn, by omega, h5, h6⟩)
      rw [if_pos rfl] at L
      rw [if_pos ⟨h, hn, by omega, h5, h6⟩]
      exact Ev.step (fun k => (st k).trans (by rw [decide_eq_true h6])) L
    · rw [if_neg (fun e => h6 e.2.2.2.2)]; exact Ev.step (fun k => (st k).trans (by rw [decide_eq_false h6])) L
theorem L3 (b : Bool) (hb : b = true → (fs.length : Int) = 3) : Ev (fun k => spec_l14Long.j3 k fs b) (if b = true then R3 fs else C4 fs) := by
  cases b with
  | true =>
    have hn := hb rfl
    rw [if_pos rfl]
    refine Ev.step (f := fun k => (spec_Unquote.f k (g fs 2)).bind fun bt166 => (if 1 < (fs.length : Int) then (some (8, g fs 1, eB, 0, 0, 0, bt166.2, bt166.1)) else none)) (fun k => by simp only [spec_l14Long.j3]; rw [if_pos trivial, if_pos (by omega)]; rfl) ((spec_uq (g fs 2) (g_le hs 2 (by omega))).bind ?_)
    exact Ev.congr (fun k => if_pos (by omega)) (Ev.now _)
  | false =>
    rw [if_neg (by decide)]
    by_cases h : wd fs = [119, 114, 105, 116, 101]
    · refine Ev.step (f := fun k => spec_l14Long.j4 k fs ((fs.length : Int) == 4)) (fun k => by simp only [spec_l14Long.j3]; rw [if_neg (by decide), if_pos (by omega), tl_list]; exact if_pos h) ?_
      have := L4 fs h0 hs ((fs.length : Int) == 4) (fun e => beq_iff_eq.1 e)
      by_cases hn : (fs.length : Int) = 4
      · rw [if_pos (beq_iff_eq.2 hn)] at this; rw [C4, if_pos ⟨h, hn⟩]; exact this
      · rw [if_neg (fun e => hn (beq_iff_eq.1 e))] at this; rw [C4, if_neg (fun e => hn e.2)]; exact this
    · refine Ev.step (f := fun k => spec_l14Long.j4 k fs false) (fun k => by simp only [spec_l14Long.j3]; rw [if_neg (by decide), if_pos (by omega), tl_list]; exact if_neg h) ?_
      have := L4 fs h0 hs false (fun e => by cases e)
      rw [if_neg (by decide)] at this; rw [C4, if_neg (fun e => h e.1)]; exact this
theorem L2 (b : Bool) (hb : b = true → (fs.length : Int) = 3) : Ev (fun k => spec_l14Long.j2 k fs b) (if b = true then R2 fs else C3 fs) := by
  cases b with
  | true =>
    have hn := hb rfl
    rw [if_pos rfl]
    exact Ev.step (f := fun _ => some (R2 fs)) (fun k => by simp only [spec_l14Long.j2]; rw [if_pos trivial, if_pos (by omega), if_pos (by omega)]; rfl) (Ev.now _)
  | false =>
    rw [if_neg (by decide)]
    by_cases h : wd fs = [97, 112, 112, 101, 110, 100]
    · refine Ev.step (f := fun k => spec_l14Long.j3 k fs ((fs.length : Int) == 3)) (fun k => by simp only [spec_l14Long.j2]; rw [if_neg (by decide), if_pos (by omega), tl_list]; exact if_pos h) ?_
      have := L3 fs h0 hs ((fs.length : Int) == 3) (fun e => beq_iff_eq.1 e)
      by_cases hn : (fs.length : Int) = 3
      · rw [if_pos (beq_iff_eq.2 hn)] at this; rw [C3, if_pos ⟨h, hn⟩]; exact this
      · rw [if_neg (fun e => hn (beq_iff_eq.1 e))] at this; rw [C3, if_neg (fun e => hn e.2)]; exact this
    · refine Ev.step (f := fun k => spec_l14Long.j3 k fs false) (fun k => by simp only [spec_l14Long.j2]; rw [if_neg (by decide), if_pos (by omega), tl_list]; exact if_neg h) ?_
      have := L3 fs h0 hs false (fun e => by cases e)
      rw [if_neg (by decide)] at this; rw [C3, if_neg (fun e => h e.1)]; exact this
theorem L1 (b : Bool) (hb : b = true → (fs.length : Int) = 3) : Ev (fun k => spec_l14Long.j1 k fs b) (if b = true then R1 fs else C2 fs) := by
  cases b with
  | true =>
    have hn := hb rfl
    rw [if_pos rfl]
    exact Ev.step (f := fun _ => some (R1 fs)) (fun k => by simp only [spec_l14Long.j1]; rw [if_pos trivial, if_pos (by omega), if_pos (by omega)]; rfl) (Ev.now _)
  | false =>
    rw [if_neg (by decide)]
    by_cases h : wd fs = [115, 121, 109, 108, 105, 110, 107]
    · refine Ev.step (f := fun k => spec_l14Long.j2 k fs ((fs.length : Int) == 3)) (fun k => by simp only [spec_l14Long.j1]; rw [if_neg (by decide), if_pos (by omega), tl_list]; exact if_pos h) ?_
      have := L2 fs h0 hs ((fs.length : Int) == 3) (fun e => beq_iff_eq.1 e)
      by_cases hn : (fs.length : Int) = 3
      · rw [if_pos (beq_iff_eq.2 hn)] at this; rw [C2, if_pos ⟨h, hn⟩]; exact this
      · rw [if_neg (fun e => hn (beq_iff_eq.1 e))] at this; rw [C2, if_neg (fun e => hn e.2)]; exact this
    · refine Ev.step (f := fun k => spec_l14Long.j2 k fs false) (fun k => by simp only [spec_l14Long.j1]; rw [if_neg (by decide), if_pos (by omega), tl_list]; exact if_neg h) ?_
      have := L2 fs h0 hs false (fun e => by cases e)
      rw [if_neg (by decide)] at this; rw [C2, if_neg (fun e => h e.1)]; exact this
theorem L0 (b : Bool) (hb : b = true → (fs.length : Int) = 3) : Ev (fun k => spec_l14Long.j0 k fs b) (if b = true then R0 fs else C1 fs) := by
  cases b with
  | true =>
    have hn := hb rfl
    rw [if_pos rfl]
    exact Ev.step (f := fun _ => some (R0 fs)) (fun k => by simp only [spec_l14Long.j0]; rw [if_pos trivial, if_pos (by omega), if_pos (by omega)]; rfl) (Ev.now _)
  | false =>
    rw [if_neg (by decide)]
    by_cases h : wd fs = [108, 105, 110, 107]
    · refine Ev.step (f := fun k => spec_l14Long.j1 k fs ((fs.length : Int) == 3)) (fun k => by simp only [spec_l14Long.j0]; rw [if_neg (by decide), if_pos (by omega), tl_list]; exact if_pos h) ?_
      have := L1 fs h0 hs ((fs.length : Int) == 3) (fun e => beq_iff_eq.1 e)
      by_cases hn : (fs.length : Int) = 3
      · rw [if_pos (beq_iff_eq.2 hn)] at this; rw [C1, if_pos ⟨h, hn⟩]; exact this
      · rw [if_neg (fun e => hn (beq_iff_eq.1 e))] at this; rw [C1, if_neg (fun e => hn e.2)]; exact this
    · refine Ev.step (f := fun k => spec_l14Long.j1 k fs false) (fun k => by simp only [spec_l14Long.j0]; rw [if_neg (by decide), if_pos (by omega), tl_list]; exact if_neg h) ?_
      have := L1 fs h0 hs false (fun e => by cases e)
      rw [if_neg (by decide)] at this; rw [C1, if_neg (fun e => h e.1)]; exact this
theorem long_ev : Ev (fun k => spec_l14Long.f k fs) (C0 fs) := by
  have st : ∀ k, spec_l14Long.f k fs = if wd fs = [114, 101, 110, 97, 109, 101] then spec_l14Long.j0 k fs ((fs.length : Int) == 3) else spec_l14Long.j0 k fs false := fun k => by
    unfold spec_l14Long.f; rw [if_pos (by omega), tl_list]; rfl
  by_cases h : wd fs = [114, 101, 110, 97, 109, 101]
  · have := L0 fs h0 hs ((fs.length : Int) == 3) (fun e => beq_iff_eq.1 e)
    refine Ev.congr (fun k => (st k).trans (if_pos h)) ?_
    by_cases hn : (fs.length : Int) = 3
    · rw [if_pos (beq_iff_eq.2 hn)] at this; rw [C0, if_pos ⟨h, hn⟩]; exact this
    · rw [if_neg (fun e => hn (beq_iff_eq.1 e))] at this; rw [C0, if_neg (fun e => hn e.2)]; exact this
  · have := L0 fs h0 hs false (fun e => by cases e)
    rw [if_neg (by decide)] at this; rw [C0, if_neg (fun e => h e.1)]
    exact Ev.congr (fun k => (st k).trans (if_neg h)) this
theorem HL4 (h : Int) (b : Bool) (hb : b = true → (fs.length : Int) = 4) : Ev (fun k => spec_l14Handled.j4 k fs b 0 eB eB h 0 0 eB) (if b = true then HR4 fs h else HC5 fs h) := by
  cases b with
  | true =>
    have hn := hb rfl
    rw [if_pos rfl]
    refine Ev.step (f := fun k => (spec_l14Number.f k (g fs 2)).bind fun bt225 => (if 3 < (fs.length : Int) then ((spec_Unquote.f k (g fs 3)).bind fun bt228 => (if bt225.2 = true then (some (11, eB, eB, h, bt225.1, 0, bt228.2, bt228.1)) else (some (11, eB, eB, h, bt225.1, 0, bt228.2, false)))) else none)) (fun k => by simp only [spec_l14Handled.j4]; rw [if_pos trivial, if_pos (by omega)]; rfl) ((spec_num (g fs 2) (g_le hs 2 (by omega))).bind ?_)
    refine Ev.congr (fun k => if_pos (by omega)) ((spec_uq (g fs 3) (g_le hs 3 (by omega))).bind ?_)
    unfold HR4
    by_cases h : nb (g fs 2) = true
    · rw [if_pos h, if_pos h]; exact Ev.now _
    · rw [if_neg h, if_neg h]; exact Ev.now _
  | false =>
    rw [if_neg (by decide)]
    exact Ev.step (f := fun _ => some (HC5 fs h)) (fun k => by simp only [spec_l14Handled.j4]; rw [if_neg (by decide)]; rfl) (Ev.now _)
theorem HL3 (h : Int) (b : Bool) (hb : b = true → (fs.length : Int) = 4) : Ev (fun k => spec_l14Handled.j3 k fs b 0 eB eB h 0 0 eB) (if b = true then HR3 fs h else HC4 fs h) := by
  cases b with
  | true =>
    have hn := hb rfl
    rw [if_pos rfl]
    refine Ev.step (f := fun k => (spec_l14Number.f k (g fs 2)).bind fun bt218 => (if 3 < (fs.length : Int) then ((spec_l14Number.f k (g fs 3)).bind fun bt221 => (if bt218.2 = true then (some (15, eB, eB, h, bt218.1, bt221.1, eB, bt221.2)) else (some (15, eB, eB, h, bt218.1, bt221.1, eB, false)))) else none)) (fun k => by simp only [spec_l14Handled.j3]; rw [if_pos trivial, if_pos (by omega)]; rfl) ((spec_num (g fs 2) (g_le hs 2 (by omega))).bind ?_)
    refine Ev.congr (fun k => if_pos (by omega)) ((spec_num (g fs 3) (g_le hs 3 (by omega))).bind ?_)
    unfold HR3
    by_cases h : nb (g fs 2) = true
    · rw [if_pos h, if_pos h]; exact Ev.now _
    · rw [if_neg h, if_neg h]; exact Ev.now _
  | false =>
    rw [if_neg (by decide)]
    by_cases hw : wd fs = [112, 119, 114, 105, 116, 101]
    · refine Ev.step (f := fun k => spec_l14Handled.j4 k fs ((fs.length : Int) == 4) 0 eB eB h 0 0 eB) (fun k => by simp only [spec_l14Handled.j3]; rw [if_neg (by decide), if_pos (by omega), tl_list]; exact if_pos hw) ?_
      have := HL4 fs h0 hs h ((fs.length : Int) == 4) (fun e => beq_iff_eq.1 e)
      by_cases hn : (fs.length : Int) = 4
      · rw [if_pos (beq_iff_eq.2 hn)] at this; rw [HC4, if_pos ⟨hw, hn⟩]; exact this
      · rw [if_neg (fun e => hn (beq_iff_eq.1 e))] at this; rw [HC4, if_neg (fun e => hn e.2)]; exact this
    · refine Ev.step (f := fun k => spec_l14Handled.j4 k fs false 0 eB eB h 0 0 eB) (fun k => by simp only [spec_l14Handled.j3]; rw [if_neg (by decide), if_pos (by omega), tl_list]; exact if_neg hw) ?_
      have := HL4 fs h0 hs h false (fun e => by cases e)
      rw [if_neg (by decide)] at this; rw [HC4, if_neg (fun e => hw e.1)]; exact this
theorem HL2 (h : Int) (b : Bool) (hb : b = true → (fs.length : Int) = 3) : Ev (fun k => spec_l14Handled.j2 k fs b 0 eB eB h 0 0 eB) (if b = true then HR2 fs h else HC3 fs h) := by
  cases b with
  | true =>
    have hn := hb rfl
    rw [if_pos rfl]
    exact Ev.step (f := fun k => (spec_l14Number.f k (g fs 2)).bind fun bt214 => (some (12, eB, eB, h, 0, bt214.1, eB, bt214.2))) (fun k => by simp only [spec_l14Handled.j2]; rw [if_pos trivial, if_pos (by omega)]; rfl) ((spec_num (g fs 2) (g_le hs 2 (by omega))).bind (Ev.now _))
  | false =>
    rw [if_neg (by decide)]
    by_cases hw : wd fs = [112, 114, 101, 97, 100]
    · refine Ev.step (f := fun k => spec_l14Handled.j3 k fs ((fs.length : Int) == 4) 0 eB eB h 0 0 eB) (fun k => by simp only [spec_l14Handled.j2]; rw [if_neg (by decide), if_pos (by omega), tl_list]; exact if_pos hw) ?_
      have := HL3 fs h0 hs h ((fs.length : Int) == 4) (fun e => beq_iff_eq.1 e)
      by_cases hn : (fs.length : Int) = 4
      · rw [if_pos (beq_iff_eq.2 hn)] at this; rw [HC3, if_pos ⟨hw, hn⟩]; exact this
      · rw [if_neg (fun e => hn (beq_iff_eq.1 e))] at this; rw [HC3, if_neg (fun e => hn e.2)]; exact this
    · refine Ev.step (f := fun k => spec_l14Handled.j3 k fs false 0 eB eB h 0 0 eB) (fun k => by simp only [spec_l14Handled.j2]; rw [if_neg (by decide), if_pos (by omega), tl_list]; exact if_neg hw) ?_
      have := HL3 fs h0 hs h false (fun e => by cases e)
      rw [if_neg (by decide)] at this; rw [HC3, if_neg (fun e => hw e.1)]; exact this
theorem HL1 (h : Int) (b : Bool) (hb : b = true → (fs.length : Int) = 2) : Ev (fun k => spec_l14Handled.j1 k fs b 0 eB eB h 0 0 eB) (if b = true then HR1 fs h else HC2 fs h) := by
  cases b with
  | true =>
    have hn := hb rfl
    rw [if_pos rfl]
    exact Ev.step (f := fun _ => some (HR1 fs h)) (fun k => by simp only [spec_l14Handled.j1]; rw [if_pos trivial]; rfl) (Ev.now _)
  | false =>
    rw [if_neg (by decide)]
    by_cases hw : wd fs = [102, 116, 114, 117, 110, 99]
    · refine Ev.step (f := fun k => spec_l14Handled.j2 k fs ((fs.length : Int) == 3) 0 eB eB h 0 0 eB) (fun k => by simp only [spec_l14Handled.j1]; rw [if_neg (by decide), if_pos (by omega), tl_list]; exact if_pos hw) ?_
      have := HL2 fs h0 hs h ((fs.length : Int) == 3) (fun e => beq_iff_eq.1 e)
      by_cases hn : (fs.length : Int) = 3
      · rw [if_pos (beq_iff_eq.2 hn)] at this; rw [HC2, if_pos ⟨hw, hn⟩]; exact this
      · rw [if_neg (fun e => hn (beq_iff_eq.1 e))] at this; rw [HC2, if_neg (fun e => hn e.2)]; exact this
    · refine Ev.step (f := fun k => spec_l14Handled.j2 k fs false 0 eB eB h 0 0 eB) (fun k => by simp only [spec_l14Handled.j1]; rw [if_neg (by decide), if_pos (by omega), tl_list]; exact if_neg hw) ?_
      have := HL2 fs h0 hs h false (fun e => by cases e)
      rw [if_neg (by decide)] at this; rw [HC2, if_neg (fun e => hw e.1)]; exact this
theorem HL0 (h : Int) (b : Bool) (hb : b = true → (fs.length : Int) = 2) : Ev (fun k => spec_l14Handled.j0 k fs b 0 eB eB h 0 0 eB) (if b = true then HR0 fs h else HC1 fs h) := by
  cases b with
  | true =>
    have hn := hb rfl
    rw [if_pos rfl]
    exact Ev.step (f := fun _ => some (HR0 fs h)) (fun k => by simp only [spec_l14Handled.j0]; rw [if_pos trivial]; rfl) (Ev.now _)
  | false =>
    rw [if_neg (by decide)]
    by_cases hw : wd fs = [102, 115, 116, 97, 116]
    · refine Ev.step (f := fun k => spec_l14Handled.j1 k fs ((fs.length : Int) == 2) 0 eB eB h 0 0 eB) (fun k => by simp only [spec_l14Handled.j0]; rw [if_neg (by decide), if_pos (by omega), tl_list]; exact if_pos hw) ?_
      have := HL1 fs h0 hs h ((fs.length : Int) == 2) (fun e => beq_iff_eq.1 e)
      by_cases hn : (fs.length : Int) = 2
      · rw [if_pos (beq_iff_eq.2 hn)] at this; rw [HC1, if_pos ⟨hw, hn⟩]; exact this
      · rw [if_neg (fun e => hn (beq_iff_eq.1 e))] at this; rw [HC1, if_neg (fun e => hn e.2)]; exact this
    · refine Ev.step (f := fun k => spec_l14Handled.j1 k fs false 0 eB eB h 0 0 eB) (fun k => by simp only [spec_l14Handled.j0]; rw [if_neg (by decide), if_pos (by omega), tl_list]; exact if_neg hw) ?_
      have := HL1 fs h0 hs h false (fun e => by cases e)
      rw [if_neg (by decide)] at this; rw [HC1, if_neg (fun e => hw e.1)]; exact this
theorem handled_ev : Ev (fun k => spec_l14Handled.f k fs) (if (fs.length : Int) < 2 then no8 else if nb (g fs 1) = true then HC0 fs (nv (g fs 1)) else (0, eB, eB, nv (g fs 1), 0, 0, eB, false)) := by
  by_cases h2 : (fs.length : Int) < 2
  · rw [if_pos h2]
    exact Ev.congr (f := fun _ => some no8) (fun k => by unfold spec_l14Handled.f; rw [if_pos h2]; rfl) (Ev.now _)
  rw [if_neg h2]
  refine Ev.congr (f := fun k => (spec_l14Number.f k (g fs 1)).bind fun bt207 => (if bt207.2 = true then (if wd fs = [99, 108, 111, 115, 101] then (spec_l14Handled.j0 k fs ((fs.length : Int) == 2) 0 eB eB bt207.1 0 0 eB) else (spec_l14Handled.j0 k fs false 0 eB eB bt207.1 0 0 eB)) else (some (0, eB, eB, bt207.1, 0, 0, eB, false)))) (fun k => ?_) ((spec_num (g fs 1) (g_le hs 1 (by omega))).bind ?_)
  · unfold spec_l14Handled.f
    rw [if_neg h2, if_pos (by omega), tl_list]
    simp only [show (0 < (fs.length : Int)) = True from eq_true (by omega), ↓reduceIte]
    rfl
  by_cases h1 : nb (g fs 1) = true
  rotate_left
  · rw [if_neg h1]; exact Ev.congr (fun k => if_neg h1) (Ev.now _)
  rw [if_pos h1]
  refine Ev.congr (fun k => if_pos h1) ?_
  by_cases h : wd fs = [99, 108, 111, 115, 101]
  · have := HL0 fs h0 hs (nv (g fs 1)) ((fs.length : Int) == 2) (fun e => beq_iff_eq.1 e)
    refine Ev.congr (fun k => if_pos h) ?_
    by_cases hn : (fs.length : Int) = 2
    · rw [if_pos (beq_iff_eq.2 hn)] at this; rw [HC0, if_pos ⟨h, hn⟩]; exact this
    · rw [if_neg (fun e => hn (beq_iff_eq.1 e))] at this; rw [HC0, if_neg (fun e => hn e.2)]; exact this
  · have := HL0 fs h0 hs (nv (g fs 1)) false (fun e => by cases e)
    rw [if_neg (by decide)] at this; rw [HC0, if_neg (fun e => h e.1)]
    exact Ev.congr (fun k => if_neg h) this
end
def W9 (l : List UInt8) : Int := if l = [99, 114, 101, 97, 116, 101] then 1 else if l = [109, 107, 100, 105, 114] then 2 else if l = [117, 110, 108, 105, 110, 107] then 3 else if l = [114, 109, 100, 105, 114] then 4 else if l = [111, 112, 101, 110] then 14 else if l = [115, 116, 97, 116] then 18 else if l = [108, 115, 116, 97, 116] then 19 else if l = [108, 105, 115, 116] then 20 else if l = [114, 101, 97, 100, 108, 105, 110, 107] then 21 else 0
theorem word_is (w : ByteArray) : spec_l14Word.f w = some (W9 w.data.toList) := by
  unfold spec_l14Word.f W9
  rw [tl_list]
  repeat' split
  all_goals rfl
def LN (l : List UInt8) : Int := if [115, 121, 110, 99] = l then 22 else if [99, 104, 101, 99, 107, 112, 111, 105, 110, 116] = l then 23 else if [115, 112, 97, 99, 101] = l then 24 else if [108, 111, 103] = l then 25 else 0
def lones : List ByteArray := [(⟨#[115, 121, 110, 99]⟩ : ByteArray), (⟨#[99, 104, 101, 99, 107, 112, 111, 105, 110, 116]⟩ : ByteArray), (⟨#[115, 112, 97, 99, 101]⟩ : ByteArray), (⟨#[108, 111, 103]⟩ : ByteArray)]
theorem lone_ev (w : ByteArray) : Ev (fun k => spec_l14Lone.f k w) (LN w.data.toList) := by
  have s0 : ∀ k, spec_l14Lone.l0 (k + 1) w lones 0 = if [115, 121, 110, 99] = w.data.toList then some 22 else spec_l14Lone.l0 k w lones 1 := fun k => by
    simp only [spec_l14Lone.l0]; rw [if_pos (by decide), if_pos (by decide), tl_list, tl_list]
    show (if [115, 121, 110, 99] = w.data.toList then some (wrap64 (22 + 0)) else spec_l14Lone.l0 k w lones (wrap64 (0 + 1))) = _
    rw [show wrap64 (22 + 0) = 22 from by unfold wrap64; omega, show wrap64 (0 + 1) = 1 from by unfold wrap64; omega]
  have s1 : ∀ k, spec_l14Lone.l0 (k + 1) w lones 1 = if [99, 104, 101, 99, 107, 112, 111, 105, 110, 116] = w.data.toList then some 23 else spec_l14Lone.l0 k w lones 2 := fun k => by
    simp only [spec_l14Lone.l0]; rw [if_pos (by decide), if_pos (by decide), tl_list, tl_list]
    show (if [99, 104, 101, 99, 107, 112, 111, 105, 110, 116] = w.data.toList then some (wrap64 (22 + 1)) else spec_l14Lone.l0 k w lones (wrap64 (1 + 1))) = _
    rw [show wrap64 (22 + 1) = 23 from by unfold wrap64; omega, show wrap64 (1 + 1) = 2 from by unfold wrap64; omega]
  have s2 : ∀ k, spec_l14Lone.l0 (k + 1) w lones 2 = if [115, 112, 97, 99, 101] = w.data.toList then some 24 else spec_l14Lone.l0 k w lones 3 := fun k => by
    simp only [spec_l14Lone.l0]; rw [if_pos (by decide), if_pos (by decide), tl_list, tl_list]
    show (if [115, 112, 97, 99, 101] = w.data.toList then some (wrap64 (22 + 2)) else spec_l14Lone.l0 k w lones (wrap64 (2 + 1))) = _
    rw [show wrap64 (22 + 2) = 24 from by unfold wrap64; omega, show wrap64 (2 + 1) = 3 from by unfold wrap64; omega]
  have s3 : ∀ k, spec_l14Lone.l0 (k + 1) w lones 3 = if [108, 111, 103] = w.data.toList then some 25 else spec_l14Lone.l0 k w lones 4 := fun k => by
    simp only [spec_l14Lone.l0]; rw [if_pos (by decide), if_pos (by decide), tl_list, tl_list]
    show (if [108, 111, 103] = w.data.toList then some (wrap64 (22 + 3)) else spec_l14Lone.l0 k w lones (wrap64 (3 + 1))) = _
    rw [show wrap64 (22 + 3) = 25 from by unfold wrap64; omega, show wrap64 (3 + 1) = 4 from by unfold wrap64; omega]
  have s4 : ∀ k, spec_l14Lone.l0 (k + 1) w lones 4 = some 0 := fun k => by simp only [spec_l14Lone.l0]; rw [if_neg (by decide)]
  show Ev (fun k => spec_l14Lone.l0 k w lones 0) _
  unfold LN
  by_cases h0 : [115, 121, 110, 99] = w.data.toList
  · rw [if_pos h0]; exact Ev.step (f := fun _ => some 22) (fun k => (s0 k).trans (if_pos h0)) (Ev.now _)
  rw [if_neg h0]
  refine Ev.step (fun k => (s0 k).trans (if_neg h0)) ?_
  by_cases h1 : [99, 104, 101, 99, 107, 112, 111, 105, 110, 116] = w.data.toList
  · rw [if_pos h1]; exact Ev.step (f := fun _ => some 23) (fun k => (s1 k).trans (if_pos h1)) (Ev.now _)
  rw [if_neg h1]
  refine Ev.step (fun k => (s1 k).trans (if_neg h1)) ?_
  by_cases h2 : [115, 112, 97, 99, 101] = w.data.toList
  · rw [if_pos h2]; exact Ev.step (f := fun _ => some 24) (fun k => (s2 k).trans (if_pos h2)) (Ev.now _)
  rw [if_neg h2]
  refine Ev.step (fun k => (s2 k).trans (if_neg h2)) ?_
  by_cases h3 : [108, 111, 103] = w.data.toList
  · rw [if_pos h3]; exact Ev.step (f := fun _ => some 25) (fun k => (s3 k).trans (if_pos h3)) (Ev.now _)
  rw [if_neg h3]
  exact Ev.step (fun k => (s3 k).trans (if_neg h3)) (Ev.step (f := fun _ => some 0) s4 (Ev.now _))
theorem nums_ev (fs : List ByteArray) (hl : fs.length ≤ 1048576) (hs : ∀ f ∈ fs, f.size ≤ 1048576) : ∀ (e i : Nat), i + e = fs.length → ∀ ns : List Int, ns.length ≤ i → ∃ r, Ev (fun k => spec_l14Numbers.l0 k fs ns (i : Int)) r ∧ (match (fs.drop i).mapM nm with | some ms => r = (ns ++ ms, true) | none => r.2 = false) := by
  intro e
  induction e with
  | zero =>
    intro i hi ns hn
    rw [List.drop_eq_nil_of_le (by omega), List.mapM_nil]
    exact ⟨(ns, true), Ev.step (f := fun _ => some (ns, true)) (fun k => by simp only [spec_l14Numbers.l0]; rw [if_neg (by omega)]) (Ev.now _), by simp [pure]⟩
  | succ e ih =>
    intro i hi ns hn
    have hia : i < fs.length := by omega
    have ei : wrap64 ((i : Int) + 1) = ((i + 1 : Nat) : Int) := by rw [w64 (by omega) (by omega)]; rfl
    have st : ∀ k, spec_l14Numbers.l0 (k + 1) fs ns (i : Int) = (spec_l14Number.f k fs[i]).bind fun bt128 => (if bt128.2 = true then (spec_l14Numbers.l0 k fs (ns ++ [bt128.1]) ((i + 1 : Nat) : Int)) else some (ns, false)) := fun k => by
      simp only [spec_l14Numbers.l0]
      rw [if_pos (by omega), if_pos (by omega), rdS fs i hia, ei]
      simp only [show (ns.length < 17592186044416) = True from eq_true (by omega), ↓reduceIte]
    rw [List.drop_eq_getElem_cons hia, List.mapM_cons]
    have hnum := spec_num fs[i] (sizeLe hs i hia)
    unfold nv nb at hnum
    cases hnm : nm fs[i] with
    | none =>
      rw [hnm] at hnum
      exact ⟨(ns, false), Ev.step st (hnum.bind (Ev.congr (f := fun _ => some (ns, false)) (fun k => if_neg (by decide)) (Ev.now _))), rfl⟩
    | some v =>
      rw [hnm] at hnum
      obtain ⟨r, h1, h2⟩ := ih (i + 1) (by omega) (ns ++ [v]) (by rw [List.length_append, List.length_singleton]; omega)
      refine ⟨r, Ev.step st (hnum.bind (Ev.congr (fun k => if_pos rfl) h1)), ?_⟩
      cases hm : (fs.drop (i + 1)).mapM nm with
      | none => rw [hm] at h2; exact h2
      | some ms =>
        rw [hm] at h2
        dsimp only at h2
        rw [List.append_assoc, List.singleton_append] at h2
        exact h2
def HH (fs : List ByteArray) : R8 := if (fs.length : Int) < 2 then no8 else if nb (g fs 1) = true then HC0 fs (nv (g fs 1)) else (0, eB, eB, nv (g fs 1), 0, 0, eB, false)
def lineR (r : R8) : Res := (1, r.1, r.2.1, r.2.2.1, r.2.2.2.1, r.2.2.2.2.1, r.2.2.2.2.2.1, r.2.2.2.2.2.2.1, [])
def flag (r : R8) : Bool := r.2.2.2.2.2.2.2
def SP3 (fs : List ByteArray) : Res := if flag (C0 fs) = true then lineR (C0 fs) else if flag (HH fs) = true then lineR (HH fs) else bad
def SP2 (fs : List ByteArray) : Res := if wd fs = wCrash ∨ wd fs = wArm then numsR (wd fs == wArm) (fs.drop 1) else SP3 fs
def SP1 (fs : List ByteArray) : Res := if (fs.length : Int) = 2 ∧ W9 (wd fs) > 0 then (1, W9 (wd fs), g fs 1, eB, 0, 0, 0, eB, []) else SP2 fs
/-- What the reference says of fields. -/
def SP (fs : List ByteArray) : Res :=
  if (fs.length : Int) = 1 then (if wd fs = wTree then (2, 0, eB, eB, 0, 0, 0, eB, []) else if wd fs = wCheck then (3, 0, eB, eB, 0, 0, 0, eB, []) else if wd fs = wMount then (6, 0, eB, eB, 0, 0, 0, eB, [])
    else if LN (wd fs) > 0 then (1, LN (wd fs), eB, eB, 0, 0, 0, eB, []) else SP1 fs) else SP1 fs
section
variable (fs : List ByteArray) (h0 : 0 < fs.length) (hl : fs.length ≤ 1048576) (hs : ∀ f ∈ fs, f.size ≤ 1048576)
include h0 hl hs
theorem sp3_ev : Ev (fun k => spec_ParseLine.j3 k fs false) (SP3 fs) := by
  refine Ev.step (f := fun k => (spec_l14Long.f k fs).bind fun bt255 => (if flag bt255 = true then some (lineR bt255) else ((spec_l14Handled.f k fs).bind fun bt264 => (if flag bt264 = true then some (lineR bt264) else some bad)))) (fun k => by simp only [spec_ParseLine.j3]; rw [if_neg (by decide)]; rfl) ((long_ev fs h0 hs).bind ?_)
  unfold SP3
  by_cases h : flag (C0 fs) = true
  · rw [if_pos h]; exact Ev.congr (f := fun _ => some (lineR (C0 fs))) (fun k => if_pos h) (Ev.now _)
  rw [if_neg h]
  refine Ev.congr (fun k => if_neg h) ((handled_ev fs h0 hs).bind ?_)
  show Ev (fun n => if flag (HH fs) = true then some (lineR (HH fs)) else some bad) _
  by_cases h2 : flag (HH fs) = true
  · rw [if_pos h2, if_pos h2]; exact Ev.now _
  · rw [if_neg h2, if_neg h2]; exact Ev.now _
theorem sp2_ev : Ev (fun k => spec_ParseLine.j2 k fs false) (SP2 fs) := by
  have st : ∀ k, spec_ParseLine.j2 (k + 1) fs false = if wd fs = wCrash then spec_ParseLine.j3 k fs true else spec_ParseLine.j3 k fs (wd fs == wArm) := fun k => by
    simp only [spec_ParseLine.j2]; rw [if_neg (by decide), if_pos (by omega), tl_list]; rfl
  unfold SP2
  have j3 : wd fs = wCrash ∨ wd fs = wArm → Ev (fun k => spec_ParseLine.j3 k fs true) (numsR (wd fs == wArm) (fs.drop 1)) := by
    intro h
    obtain ⟨r, h1, h2⟩ := nums_ev fs hl hs (fs.length - 1) 1 (by omega) [] (by simp)
    have hne : wd fs = wCrash → ¬ wd fs = wArm := fun e1 e2 => by rw [e1] at e2; exact absurd e2 (by decide)
    have j4b : ∀ (ns : List Int) (ok : Bool), ok = false ∨ ¬ wd fs = wArm → Ev (fun k => spec_ParseLine.j4 k fs ns ok false) bad := by
      intro ns ok hk
      have st4 : ∀ k, spec_ParseLine.j4 (k + 1) fs ns ok false = some bad := fun k => by
        simp only [spec_ParseLine.j4]
        rw [if_neg (by decide), if_pos (by omega), tl_list]
        show (if wd fs = wArm then _ else _) = _
        by_cases ha : wd fs = wArm
        · rw [if_pos ha, if_neg (by rcases hk with hk | hk; rw [hk]; decide; exact absurd ha hk)]; rfl
        · rw [if_neg ha]; rfl
      exact Ev.step (f := fun _ => some bad) st4 (Ev.now _)
    refine Ev.step (f := fun k => (spec_l14Numbers.f k fs 1).bind fun bt248 => (if wd fs = wCrash then (if bt248.2 = true then (spec_ParseLine.j4 k fs bt248.1 bt248.2 (decide ((bt248.1.length : Int) ≤ 600))) else (spec_ParseLine.j4 k fs bt248.1 bt248.2 false)) else (spec_ParseLine.j4 k fs bt248.1 bt248.2 false))) (fun k => ?_) (Ev.bind (g := fun k => spec_l14Numbers.f k fs 1) h1 ?_)
    · simp only [spec_ParseLine.j3, show (0 < (fs.length : Int)) = True from eq_true (by omega), ↓reduceIte, tl_list]; rfl
    unfold numsR
    cases hm : (fs.drop 1).mapM nm with
    | none =>
      rw [hm] at h2
      dsimp only at h2
      by_cases hc : wd fs = wCrash
      · exact Ev.congr (fun k => (if_pos hc).trans (if_neg (by rw [h2]; decide))) (j4b _ _ (.inl h2))
      · exact Ev.congr (fun k => if_neg hc) (j4b _ _ (.inl h2))
    | some ns =>
      rw [hm] at h2
      dsimp only at h2
      rw [List.nil_append] at h2
      subst h2
      dsimp only
      by_cases hc : wd fs = wCrash
      · have hA := hne hc
        rw [if_neg (show ¬ (wd fs == wArm) = true from fun e => hA (beq_iff_eq.1 e))]
        refine Ev.congr (fun k => (if_pos hc).trans (if_pos rfl)) ?_
        by_cases h6 : (ns.length : Int) > 600
        · rw [if_pos h6, decide_eq_false (by omega)]; exact j4b _ _ (.inr hA)
        · rw [if_neg h6, decide_eq_true (by omega)]
          exact Ev.step (f := fun _ => some _) (fun k => by simp only [spec_ParseLine.j4]; rw [if_pos trivial]; rfl) (Ev.now _)
      · have hA : wd fs = wArm := h.resolve_left hc
        rw [if_pos (beq_iff_eq.2 hA)]
        refine Ev.congr (fun k => if_neg hc) ?_
        have st4 : ∀ k, spec_ParseLine.j4 (k + 1) fs ns true false = if (ns.length : Int) ≥ 1 then (if (ns.length : Int) ≤ 601 then (if 0 < (ns.length : Int) then (if (rd ns 0) ≥ 1 then some (4, 0, eB, eB, 0, 0, 0, eB, ns) else some bad) else none) else some bad) else some bad := fun k => by
          simp only [spec_ParseLine.j4]
          rw [if_neg (by decide), if_pos (by omega), tl_list]
          show (if wd fs = wArm then _ else _) = _
          rw [if_pos hA, if_pos trivial]; rfl
        by_cases h1 : (ns.length : Int) - 1 < 0
        · rw [if_pos h1]; exact Ev.step (f := fun _ => some bad) (fun k => (st4 k).trans (if_neg (by omega))) (Ev.now _)
        rw [if_neg h1]
        by_cases h2 : rd ns 0 < 1
        · rw [if_pos h2]
          by_cases h3 : (ns.length : Int) ≤ 601
          · exact Ev.step (f := fun _ => some bad) (fun k => (st4 k).trans ((if_pos (by omega)).trans ((if_pos h3).trans ((if_pos (by omega)).trans (if_neg (by omega)))))) (Ev.now _)
          · exact Ev.step (f := fun _ => some bad) (fun k => (st4 k).trans ((if_pos (by omega)).trans (if_neg h3))) (Ev.now _)
        rw [if_neg h2]
        by_cases h3 : (ns.length : Int) - 1 > 600
        · rw [if_pos h3]; exact Ev.step (f := fun _ => some bad) (fun k => (st4 k).trans ((if_pos (by omega)).trans (if_neg (by omega)))) (Ev.now _)
        · rw [if_neg h3]; exact Ev.step (f := fun _ => some _) (fun k => (st4 k).trans ((if_pos (by omega)).trans ((if_pos (by omega)).trans ((if_pos (by omega)).trans (if_pos (by omega)))))) (Ev.now _)
  by_cases hc : wd fs = wCrash
  · rw [if_pos (.inl hc)]; exact Ev.step (fun k => (st k).trans (if_pos hc)) (j3 (.inl hc))
  by_cases ha : wd fs = wArm
  · rw [if_pos (.inr ha)]; exact Ev.step (fun k => (st k).trans ((if_neg hc).trans (by rw [beq_iff_eq.2 ha]))) (j3 (.inr ha))
  · rw [if_neg (fun h => h.elim hc ha)]; exact Ev.step (fun k => (st k).trans ((if_neg hc).trans (by rw [beq_eq_false_iff_ne.2 ha]))) (sp3_ev fs h0 hl hs)
theorem sp1_ev : Ev (fun k => spec_ParseLine.j1 k fs) (SP1 fs) := by
  unfold SP1
  by_cases h : (fs.length : Int) = 2
  rotate_left
  · rw [if_neg (fun e => h e.1)]
    exact Ev.step (fun k => by simp only [spec_ParseLine.j1]; rw [if_neg h]) (sp2_ev fs h0 hl hs)
  have st : ∀ k, spec_ParseLine.j1 (k + 1) fs = spec_ParseLine.j2 k fs (decide (W9 (wd fs) > 0)) := fun k => by
    simp only [spec_ParseLine.j1]; rw [if_pos h, if_pos (by omega), word_is]; rfl
  by_cases h2 : W9 (wd fs) > 0
  · rw [if_pos ⟨h, h2⟩]
    refine Ev.step (fun k => (st k).trans (by rw [decide_eq_true h2])) (Ev.step (f := fun _ => some (1, W9 (wd fs), g fs 1, eB, 0, 0, 0, eB, [])) (fun k => ?_) (Ev.now _))
    simp only [spec_ParseLine.j2]
    rw [if_pos trivial, if_pos (by omega), word_is]
    show (if 1 < (fs.length : Int) then _ else _) = _
    rw [if_pos (by omega)]; rfl
  · rw [if_neg (fun e => h2 e.2)]
    exact Ev.step (fun k => (st k).trans (by rw [decide_eq_false h2])) (sp2_ev fs h0 hl hs)
theorem sp_ev (i : Int) (hi : i = (fs.length : Int)) : Ev (fun k => spec_ParseLine.l0 k fs i) (SP fs) := by
  subst hi
  unfold SP
  by_cases h : (fs.length : Int) = 1
  rotate_left
  · rw [if_neg h]
    exact Ev.step (fun k => by simp only [spec_ParseLine.l0]; rw [if_neg (by omega), if_neg h]) (sp1_ev fs h0 hl hs)
  rw [if_pos h]
  have st : ∀ k, spec_ParseLine.l0 (k + 1) fs (fs.length : Int) = if wd fs = wTree then some (2, 0, eB, eB, 0, 0, 0, eB, []) else if wd fs = wCheck then some (3, 0, eB, eB, 0, 0, 0, eB, []) else if wd fs = wMount then some (6, 0, eB, eB, 0, 0, 0, eB, []) else ((spec_l14Lone.f k (g fs 0)).bind fun t238 => (if t238 > 0 then ((spec_l14Lone.f k (g fs 0)).bind fun t240 => (some (1, t240, eB, eB, 0, 0, 0, eB, []))) else (spec_ParseLine.j1 k fs))) := fun k => by
    simp only [spec_ParseLine.l0]; rw [if_neg (by omega), if_pos h, if_pos (by omega), tl_list]; rfl
  by_cases h1 : wd fs = wTree
  · rw [if_pos h1]; exact Ev.step (f := fun _ => some _) (fun k => (st k).trans (if_pos h1)) (Ev.now _)
  rw [if_neg h1]
  by_cases h2 : wd fs = wCheck
  · rw [if_pos h2]; exact Ev.step (f := fun _ => some _) (fun k => (st k).trans ((if_neg h1).trans (if_pos h2))) (Ev.now _)
  rw [if_neg h2]
  by_cases h3 : wd fs = wMount
  · rw [if_pos h3]; exact Ev.step (f := fun _ => some _) (fun k => (st k).trans ((if_neg h1).trans ((if_neg h2).trans (if_pos h3)))) (Ev.now _)
  rw [if_neg h3]
  refine Ev.step (fun k => (st k).trans ((if_neg h1).trans ((if_neg h2).trans (if_neg h3)))) ((lone_ev (g fs 0)).bind ?_)
  by_cases h4 : LN (wd fs) > 0
  · rw [if_pos h4]; exact Ev.congr (fun k => if_pos h4) ((lone_ev (g fs 0)).bind (Ev.now _))
  · rw [if_neg h4]; exact Ev.congr (fun k => if_neg h4) (sp1_ev fs h0 hl hs)
end
theorem C0_miss (fs : List ByteArray) (h : ∀ x ∈ Shp.words, ¬ (wd fs = x.1 ∧ (fs.length : Int) = (x.2.2.length : Int) + 1)) : C0 fs = no8 := by
  have k : ∀ (X : List UInt8) (n : Int), (∃ x ∈ Shp.words, x.1 = X ∧ (x.2.2.length : Int) + 1 = n) → ¬ (wd fs = X ∧ (fs.length : Int) = n) := fun X n ⟨x, hx, e1, e2⟩ e => h x hx ⟨e.1.trans e1.symm, e.2.trans e2.symm⟩
  unfold C0
  rw [if_neg (k [114, 101, 110, 97, 109, 101] 3 (by decide +kernel)), C1, if_neg (k [108, 105, 110, 107] 3 (by decide +kernel)), C2, if_neg (k [115, 121, 109, 108, 105, 110, 107] 3 (by decide +kernel)), C3, if_neg (k [97, 112, 112, 101, 110, 100] 3 (by decide +kernel)), C4, if_neg (k [119, 114, 105, 116, 101] 4 (by decide +kernel)), C5, if_neg (fun e => (k [102, 105, 108, 108] 5 (by decide +kernel)) ⟨e.1, e.2.1⟩), C6, if_neg (k [116, 114, 117, 110, 99] 3 (by decide +kernel)), C7, if_neg (k [114, 101, 97, 100] 4 (by decide +kernel)), C8]
theorem HC0_miss (fs : List ByteArray) (v : Int) (h : ∀ x ∈ Shp.words, ¬ (wd fs = x.1 ∧ (fs.length : Int) = (x.2.2.length : Int) + 1)) : flag (HC0 fs v) = false := by
  have k : ∀ (X : List UInt8) (n : Int), (∃ x ∈ Shp.words, x.1 = X ∧ (x.2.2.length : Int) + 1 = n) → ¬ (wd fs = X ∧ (fs.length : Int) = n) := fun X n ⟨x, hx, e1, e2⟩ e => h x hx ⟨e.1.trans e1.symm, e.2.trans e2.symm⟩
  unfold HC0
  rw [if_neg (k [99, 108, 111, 115, 101] 2 (by decide +kernel)), HC1, if_neg (k [102, 115, 116, 97, 116] 2 (by decide +kernel)), HC2, if_neg (k [102, 116, 114, 117, 110, 99] 3 (by decide +kernel)), HC3, if_neg (k [112, 114, 101, 97, 100] 4 (by decide +kernel)), HC4, if_neg (k [112, 119, 114, 105, 116, 101] 4 (by decide +kernel)), HC5]
  rfl
theorem HH_miss (fs : List ByteArray) (h : ∀ v, flag (HC0 fs v) = false) : flag (HH fs) = false := by
  unfold HH
  split
  · rfl
  · split
    · exact h _
    · rfl
theorem SP_miss (fs : List ByteArray) (h : ∀ x ∈ Shp.words, ¬ (wd fs = x.1 ∧ (fs.length : Int) = (x.2.2.length : Int) + 1)) (h1 : (fs.length : Int) = 1 → ¬ (wd fs = wTree ∨ wd fs = wCheck ∨ wd fs = wMount)) (h2 : ¬ (wd fs = wCrash ∨ wd fs = wArm)) : SP fs = bad := by
  have k : ∀ (X : List UInt8) (n : Int), (∃ x ∈ Shp.words, x.1 = X ∧ (x.2.2.length : Int) + 1 = n) → ¬ (wd fs = X ∧ (fs.length : Int) = n) := fun X n ⟨x, hx, e1, e2⟩ e => h x hx ⟨e.1.trans e1.symm, e.2.trans e2.symm⟩
  have s3 : SP3 fs = bad := by
    unfold SP3
    rw [C0_miss fs h, if_neg (show ¬ flag no8 = true by decide), HH_miss fs (fun v => HC0_miss fs v h), if_neg (by decide)]
  have s2 : SP2 fs = bad := by unfold SP2; rw [if_neg h2, s3]
  have s1 : SP1 fs = bad := by
    unfold SP1
    rw [if_neg, s2]
    rintro ⟨hn, hw⟩
    unfold W9 at hw
    split at hw
    · exact (k [99, 114, 101, 97, 116, 101] 2 (by decide +kernel)) ⟨by assumption, hn⟩
    split at hw
    · exact (k [109, 107, 100, 105, 114] 2 (by decide +kernel)) ⟨by assumption, hn⟩
    split at hw
    · exact (k [117, 110, 108, 105, 110, 107] 2 (by decide +kernel)) ⟨by assumption, hn⟩
    split at hw
    · exact (k [114, 109, 100, 105, 114] 2 (by decide +kernel)) ⟨by assumption, hn⟩
    split at hw
    · exact (k [111, 112, 101, 110] 2 (by decide +kernel)) ⟨by assumption, hn⟩
    split at hw
    · exact (k [115, 116, 97, 116] 2 (by decide +kernel)) ⟨by assumption, hn⟩
    split at hw
    · exact (k [108, 115, 116, 97, 116] 2 (by decide +kernel)) ⟨by assumption, hn⟩
    split at hw
    · exact (k [108, 105, 115, 116] 2 (by decide +kernel)) ⟨by assumption, hn⟩
    split at hw
    · exact (k [114, 101, 97, 100, 108, 105, 110, 107] 2 (by decide +kernel)) ⟨by assumption, hn⟩
    · omega
  unfold SP
  by_cases hn : (fs.length : Int) = 1
  rotate_left
  · rw [if_neg hn, s1]
  have h3 := h1 hn
  rw [if_pos hn, if_neg (fun e => h3 (.inl e)), if_neg (fun e => h3 (.inr (.inl e))), if_neg (fun e => h3 (.inr (.inr e))), if_neg, s1]
  intro hw
  unfold LN at hw
  split at hw
  · exact k [115, 121, 110, 99] 1 (by decide +kernel) ⟨Eq.symm (by assumption), hn⟩
  split at hw
  · exact k [99, 104, 101, 99, 107, 112, 111, 105, 110, 116] 1 (by decide +kernel) ⟨Eq.symm (by assumption), hn⟩
  split at hw
  · exact k [115, 112, 97, 99, 101] 1 (by decide +kernel) ⟨Eq.symm (by assumption), hn⟩
  split at hw
  · exact k [108, 111, 103] 1 (by decide +kernel) ⟨Eq.symm (by assumption), hn⟩
  · omega
theorem keys_one : ∀ x ∈ Shp.words, ∀ y ∈ Shp.words, x.1 = y.1 → x = y := by decide +kernel
theorem find_mem {l : List UInt8} {x : List UInt8 × Int × List UInt8} (h : Shp.words.find? (fun x => x.1 == l) = some x) : x ∈ Shp.words ∧ l = x.1 :=
  ⟨List.mem_of_find?_eq_some h, by have h2 := List.find?_some h; exact (beq_iff_eq.1 h2).symm⟩
theorem kf_some (w : ByteArray) {x : List UInt8 × Int × List UInt8} (h : Shp.words.find? (fun x => x.1 == w.data.toList) = some x) : Shp.kind w = x.2.1 ∧ Shp.form w = ⟨x.2.2.toArray⟩ := by
  unfold Shp.kind Shp.form Shp.find
  rw [h]; exact ⟨rfl, rfl⟩
theorem kf_none (w : ByteArray) (h : Shp.words.find? (fun x => x.1 == w.data.toList) = none) : Shp.kind w = 0 := by
  unfold Shp.kind Shp.find
  rw [h]; rfl
theorem stepP (f : ByteArray) (t : St) : stepF 80 f t = some { t with p := f } := rfl
theorem stepQ (f : ByteArray) (t : St) : stepF 81 f t = some { t with q := f } := rfl
theorem stepD (f : ByteArray) (t : St) : stepF 68 f t = if (uq f).1 = true then some { t with d := (uq f).2 } else none := rfl
theorem stepW (f : ByteArray) (t : St) : stepF 87 f t = if f.size = 1 ∧ 97 ≤ bt f 0 ∧ bt f 0 ≤ 122 then some { t with d := strOfNums (letL t.fill.toNat (bt f 0).toNat) } else none := rfl
theorem stepN (f : ByteArray) (t : St) : stepF 78 f t = (nm f).map fun v => { t with o := v } := by unfold stepF; cases nm f <;> rfl
theorem stepS (f : ByteArray) (t : St) : stepF 83 f t = (nm f).map fun v => { t with s := v } := by unfold stepF; cases nm f <;> rfl
theorem stepH (f : ByteArray) (t : St) : stepF 72 f t = (nm f).map fun v => { t with h := v } := by unfold stepF; cases nm f <;> rfl
theorem stepL (f : ByteArray) (t : St) : stepF 70 f t = match nm f with | none => none | some v => if 0 ≤ v ∧ v ≤ 3000 then some { t with fill := v } else none := by unfold stepF; cases nm f <;> rfl
theorem nb_none {f : ByteArray} (h : nm f = none) : nb f = false := by unfold nb; rw [h]; rfl
theorem nb_some {f : ByteArray} {v : Int} (h : nm f = some v) : nb f = true := by unfold nb; rw [h]; rfl
theorem nv_some {f : ByteArray} {v : Int} (h : nm f = some v) : nv f = v := by unfold nv; rw [h]; rfl
theorem SP_long (fs : List ByteArray) (h1 : ¬ (fs.length : Int) = 1) (h2 : (fs.length : Int) = 2 → W9 (wd fs) = 0) (h3 : ¬ (wd fs = wCrash ∨ wd fs = wArm)) : SP fs = SP3 fs := by
  unfold SP
  rw [if_neg h1]
  unfold SP1
  rw [if_neg (fun e => by have := h2 e.1; omega)]
  unfold SP2
  rw [if_neg h3]
theorem HC0_w (fs : List ByteArray) (v : Int) (h : wd fs ∉ [[99, 108, 111, 115, 101], [102, 115, 116, 97, 116], [102, 116, 114, 117, 110, 99], [112, 114, 101, 97, 100], [112, 119, 114, 105, 116, 101]]) : flag (HC0 fs v) = false := by
  simp only [List.mem_cons, List.not_mem_nil, or_false, not_or] at h
  rw [HC0, if_neg (fun e => h.1 e.1), HC1, if_neg (fun e => h.2.1 e.1), HC2, if_neg (fun e => h.2.2.1 e.1), HC3, if_neg (fun e => h.2.2.2.1 e.1), HC4, if_neg (fun e => h.2.2.2.2 e.1)]; rfl
theorem C0_w (fs : List ByteArray) (h : wd fs ∉ [[114, 101, 110, 97, 109, 101], [108, 105, 110, 107], [115, 121, 109, 108, 105, 110, 107], [97, 112, 112, 101, 110, 100], [119, 114, 105, 116, 101], [102, 105, 108, 108], [116, 114, 117, 110, 99], [114, 101, 97, 100]]) : C0 fs = no8 := by
  simp only [List.mem_cons, List.not_mem_nil, or_false, not_or] at h
  rw [C0, if_neg (fun e => h.1 e.1), C1, if_neg (fun e => h.2.1 e.1), C2, if_neg (fun e => h.2.2.1 e.1), C3, if_neg (fun e => h.2.2.2.1 e.1), C4, if_neg (fun e => h.2.2.2.2.1 e.1), C5, if_neg (fun e => h.2.2.2.2.2.1 e.1), C6, if_neg (fun e => h.2.2.2.2.2.2.1 e.1), C7, if_neg (fun e => h.2.2.2.2.2.2.2 e.1)]; rfl
theorem SP3_of (fs : List ByteArray) {r : R8} (h : C0 fs = r) (hh : ∀ v, flag (HC0 fs v) = false) : SP3 fs = if flag r = true then lineR r else bad := by
  unfold SP3
  rw [h, if_neg (show ¬ flag (HH fs) = true by rw [HH_miss fs hh]; decide)]
theorem SP3_h (fs : List ByteArray) (h : C0 fs = no8) (h2 : ¬ (fs.length : Int) < 2) : SP3 fs = if nb (g fs 1) = true then (if flag (HC0 fs (nv (g fs 1))) = true then lineR (HC0 fs (nv (g fs 1))) else bad) else bad := by
  unfold SP3 HH
  rw [h, if_neg (show ¬ flag no8 = true by decide), if_neg h2]
  split
  · rfl
  · rfl
theorem hit_create (w : ByteArray) (a : List ByteArray) (hl : w.data.toList = [99, 114, 101, 97, 116, 101]) (hm : a.length = 1) : SP (w :: a) = endF 1 (runF [80] a st0) := by
  match a, hm with
  | [f1], _ =>
    have hn : (([w, f1] : List ByteArray).length : Int) = 2 := rfl
    have hwd : wd [w, f1] = [99, 114, 101, 97, 116, 101] := hl
    unfold SP
    rw [if_neg (by rw [hn]; decide)]
    unfold SP1
    rw [if_pos ⟨hn, by rw [hwd]; decide⟩, hwd]; rfl
theorem hit_mkdir (w : ByteArray) (a : List ByteArray) (hl : w.data.toList = [109, 107, 100, 105, 114]) (hm : a.length = 1) : SP (w :: a) = endF 2 (runF [80] a st0) := by
  match a, hm with
  | [f1], _ =>
    have hn : (([w, f1] : List ByteArray).length : Int) = 2 := rfl
    have hwd : wd [w, f1] = [109, 107, 100, 105, 114] := hl
    unfold SP
    rw [if_neg (by rw [hn]; decide)]
    unfold SP1
    rw [if_pos ⟨hn, by rw [hwd]; decide⟩, hwd]; rfl
theorem hit_unlink (w : ByteArray) (a : List ByteArray) (hl : w.data.toList = [117, 110, 108, 105, 110, 107]) (hm : a.length = 1) : SP (w :: a) = endF 3 (runF [80] a st0) := by
  match a, hm with
  | [f1], _ =>
    have hn : (([w, f1] : List ByteArray).length : Int) = 2 := rfl
    have hwd : wd [w, f1] = [117, 110, 108, 105, 110, 107] := hl
    unfold SP
    rw [if_neg (by rw [hn]; decide)]
    unfold SP1
    rw [if_pos ⟨hn, by rw [hwd]; decide⟩, hwd]; rfl
theorem hit_rmdir (w : ByteArray) (a : List ByteArray) (hl : w.data.toList = [114, 109, 100, 105, 114]) (hm : a.length = 1) : SP (w :: a) = endF 4 (runF [80] a st0) := by
  match a, hm with
  | [f1], _ =>
    have hn : (([w, f1] : List ByteArray).length : Int) = 2 := rfl
    have hwd : wd [w, f1] = [114, 109, 100, 105, 114] := hl
    unfold SP
    rw [if_neg (by rw [hn]; decide)]
    unfold SP1
    rw [if_pos ⟨hn, by rw [hwd]; decide⟩, hwd]; rfl
theorem hit_rename (w : ByteArray) (a : List ByteArray) (hl : w.data.toList = [114, 101, 110, 97, 109, 101]) (hm : a.length = 2) : SP (w :: a) = endF 5 (runF [80, 81] a st0) := by
  match a, hm with
  | [f1, f2], _ =>
    have hn : (([w, f1, f2] : List ByteArray).length : Int) = 3 := rfl
    have hwd : wd [w, f1, f2] = [114, 101, 110, 97, 109, 101] := hl
    rw [SP_long _ (by rw [hn]; decide) (fun e => by rw [hn] at e; exact absurd e (by decide)) (by rw [hwd]; decide)]
    have hC : C0 [w, f1, f2] = R0 [w, f1, f2] := by rw [C0, if_pos ⟨hwd, hn⟩]
    rw [SP3_of _ hC (fun v => HC0_w _ v (by rw [hwd]; decide))]
    rfl
theorem hit_link (w : ByteArray) (a : List ByteArray) (hl : w.data.toList = [108, 105, 110, 107]) (hm : a.length = 2) : SP (w :: a) = endF 9 (runF [80, 81] a st0) := by
  match a, hm with
  | [f1, f2], _ =>
    have hn : (([w, f1, f2] : List ByteArray).length : Int) = 3 := rfl
    have hwd : wd [w, f1, f2] = [108, 105, 110, 107] := hl
    rw [SP_long _ (by rw [hn]; decide) (fun e => by rw [hn] at e; exact absurd e (by decide)) (by rw [hwd]; decide)]
    have hC : C0 [w, f1, f2] = R1 [w, f1, f2] := by rw [C0, if_neg (fun e => absurd (hwd.symm.trans e.1) (by decide)), C1, if_pos ⟨hwd, hn⟩]
    rw [SP3_of _ hC (fun v => HC0_w _ v (by rw [hwd]; decide))]
    rfl
theorem hit_symlink (w : ByteArray) (a : List ByteArray) (hl : w.data.toList = [115, 121, 109, 108, 105, 110, 107]) (hm : a.length = 2) : SP (w :: a) = endF 10 (runF [80, 81] a st0) := by
  match a, hm with
  | [f1, f2], _ =>
    have hn : (([w, f1, f2] : List ByteArray).length : Int) = 3 := rfl
    have hwd : wd [w, f1, f2] = [115, 121, 109, 108, 105, 110, 107] := hl
    rw [SP_long _ (by rw [hn]; decide) (fun e => by rw [hn] at e; exact absurd e (by decide)) (by rw [hwd]; decide)]
    have hC : C0 [w, f1, f2] = R2 [w, f1, f2] := by rw [C0, if_neg (fun e => absurd (hwd.symm.trans e.1) (by decide)), C1, if_neg (fun e => absurd (hwd.symm.trans e.1) (by decide)), C2, if_pos ⟨hwd, hn⟩]
    rw [SP3_of _ hC (fun v => HC0_w _ v (by rw [hwd]; decide))]
    rfl
theorem hit_append (w : ByteArray) (a : List ByteArray) (hl : w.data.toList = [97, 112, 112, 101, 110, 100]) (hm : a.length = 2) : SP (w :: a) = endF 8 (runF [80, 68] a st0) := by
  match a, hm with
  | [f1, f2], _ =>
    have hn : (([w, f1, f2] : List ByteArray).length : Int) = 3 := rfl
    have hwd : wd [w, f1, f2] = [97, 112, 112, 101, 110, 100] := hl
    rw [SP_long _ (by rw [hn]; decide) (fun e => by rw [hn] at e; exact absurd e (by decide)) (by rw [hwd]; decide)]
    have hC : C0 [w, f1, f2] = R3 [w, f1, f2] := by rw [C0, if_neg (fun e => absurd (hwd.symm.trans e.1) (by decide)), C1, if_neg (fun e => absurd (hwd.symm.trans e.1) (by decide)), C2, if_neg (fun e => absurd (hwd.symm.trans e.1) (by decide)), C3, if_pos ⟨hwd, hn⟩]
    rw [SP3_of _ hC (fun v => HC0_w _ v (by rw [hwd]; decide))]
    have e : runF [80, 68] [f1, f2] st0 = (if (uq f2).1 = true then some { st0 with p := f1, d := (uq f2).2 } else none) := by
      rw [runF, stepP, Option.bind_some, runF, stepD]; split <;> rfl
    rw [e]
    show (if (uq f2).1 = true then lineR (R3 [w, f1, f2]) else bad) = _
    split <;> rfl
theorem hit_write (w : ByteArray) (a : List ByteArray) (hl : w.data.toList = [119, 114, 105, 116, 101]) (hm : a.length = 3) : SP (w :: a) = endF 6 (runF [80, 78, 68] a st0) := by
  match a, hm with
  | [f1, f2, f3], _ =>
    have hn : (([w, f1, f2, f3] : List ByteArray).length : Int) = 4 := rfl
    have hwd : wd [w, f1, f2, f3] = [119, 114, 105, 116, 101] := hl
    rw [SP_long _ (by rw [hn]; decide) (fun e => by rw [hn] at e; exact absurd e (by decide)) (by rw [hwd]; decide)]
    have hC : C0 [w, f1, f2, f3] = R4 [w, f1, f2, f3] := by rw [C0, if_neg (fun e => absurd (hwd.symm.trans e.1) (by decide)), C1, if_neg (fun e => absurd (hwd.symm.trans e.1) (by decide)), C2, if_neg (fun e => absurd (hwd.symm.trans e.1) (by decide)), C3, if_neg (fun e => absurd (hwd.symm.trans e.1) (by decide)), C4, if_pos ⟨hwd, hn⟩]
    rw [SP3_of _ hC (fun v => HC0_w _ v (by rw [hwd]; decide))]
    rw [runF, stepP, Option.bind_some, runF, stepN]
    show (if (if nb f2 = true then (uq f3).1 else false) = true then (1, 6, f1, eB, 0, nv f2, 0, (uq f3).2, []) else bad) = _
    cases h : nm f2 with
    | none => rw [nb_none h]; rfl
    | some v =>
      rw [nb_some h, nv_some h, if_pos rfl, Option.map_some, Option.bind_some, runF, stepD]
      split <;> rfl
theorem hit_fill (w : ByteArray) (a : List ByteArray) (hl : w.data.toList = [102, 105, 108, 108]) (hm : a.length = 4) : SP (w :: a) = endF 6 (runF [80, 78, 70, 87] a st0) := by
  match a, hm with
  | [f1, f2, f3, f4], _ =>
    have hn : (([w, f1, f2, f3, f4] : List ByteArray).length : Int) = 5 := rfl
    have hwd : wd [w, f1, f2, f3, f4] = [102, 105, 108, 108] := hl
    rw [SP_long _ (by rw [hn]; decide) (fun e => by rw [hn] at e; exact absurd e (by decide)) (by rw [hwd]; decide)]
    rw [runF, stepP, Option.bind_some, runF, stepN]
    by_cases hW : f4.size = 1 ∧ 97 ≤ bt f4 0 ∧ bt f4 0 ≤ 122
    · have hC : C0 [w, f1, f2, f3, f4] = R5 [w, f1, f2, f3, f4] := by rw [C0, if_neg (fun e => absurd (hwd.symm.trans e.1) (by decide)), C1, if_neg (fun e => absurd (hwd.symm.trans e.1) (by decide)), C2, if_neg (fun e => absurd (hwd.symm.trans e.1) (by decide)), C3, if_neg (fun e => absurd (hwd.symm.trans e.1) (by decide)), C4, if_neg (fun e => absurd (hwd.symm.trans e.1) (by decide)), C5, if_pos ⟨hwd, hn, hW.1, hW.2.1, hW.2.2⟩]
      rw [SP3_of _ hC (fun v => HC0_w _ v (by rw [hwd]; decide))]
      have e : R5 [w, f1, f2, f3, f4] = if nb f2 = true ∧ nb f3 = true ∧ 0 ≤ nv f3 ∧ nv f3 ≤ 3000 then (6, f1, eB, 0, nv f2, 0, strOfNums (letL (nv f3).toNat (bt f4 0).toNat), true) else no8 := rfl
      cases h : nm f2 with
      | none =>
        have e2 : R5 [w, f1, f2, f3, f4] = no8 := by rw [e, nb_none h]; exact if_neg (fun z => by cases z.1)
        rw [e2]; rfl
      | some v =>
        rw [Option.map_some, Option.bind_some, runF, stepL]
        cases h3 : nm f3 with
        | none =>
          have e2 : R5 [w, f1, f2, f3, f4] = no8 := by rw [e, nb_none h3]; exact if_neg (fun z => by cases z.2.1)
          rw [e2]; rfl
        | some u =>
          rw [nv_some h3, nb_some h, nb_some h3, nv_some h] at e
          by_cases hu : 0 ≤ u ∧ u ≤ 3000
          · rw [e.trans (if_pos ⟨rfl, rfl, hu⟩)]
            dsimp only
            rw [if_pos hu, Option.bind_some, runF, stepW, if_pos hW]; rfl
          · rw [e.trans (if_neg (fun z => hu z.2.2))]
            dsimp only
            rw [if_neg hu]; rfl
    · have hC : C0 [w, f1, f2, f3, f4] = no8 := by
        rw [C0, if_neg (fun e => absurd (hwd.symm.trans e.1) (by decide)), C1, if_neg (fun e => absurd (hwd.symm.trans e.1) (by decide)), C2, if_neg (fun e => absurd (hwd.symm.trans e.1) (by decide)), C3, if_neg (fun e => absurd (hwd.symm.trans e.1) (by decide)), C4, if_neg (fun e => absurd (hwd.symm.trans e.1) (by decide)), C5, if_neg (fun e => hW ⟨e.2.2.1, e.2.2.2.1, e.2.2.2.2⟩), C6, if_neg (fun e => absurd (hwd.symm.trans e.1) (by decide)), C7, if_neg (fun e => absurd (hwd.symm.trans e.1) (by decide))]; rfl
      rw [SP3_of _ hC (fun v => HC0_w _ v (by rw [hwd]; decide))]
      show bad = _
      cases h : nm f2 with
      | none => rfl
      | some v =>
        rw [Option.map_some, Option.bind_some, runF, stepL]
        cases h3 : nm f3 with
        | none => rfl
        | some u =>
          dsimp only
          split
          · rw [Option.bind_some, runF, stepW, if_neg hW]; rfl
          · rfl
theorem hit_trunc (w : ByteArray) (a : List ByteArray) (hl : w.data.toList = [116, 114, 117, 110, 99]) (hm : a.length = 2) : SP (w :: a) = endF 7 (runF [80, 83] a st0) := by
  match a, hm with
  | [f1, f2], _ =>
    have hn : (([w, f1, f2] : List ByteArray).length : Int) = 3 := rfl
    have hwd : wd [w, f1, f2] = [116, 114, 117, 110, 99] := hl
    rw [SP_long _ (by rw [hn]; decide) (fun e => by rw [hn] at e; exact absurd e (by decide)) (by rw [hwd]; decide)]
    have hC : C0 [w, f1, f2] = R6 [w, f1, f2] := by rw [C0, if_neg (fun e => absurd (hwd.symm.trans e.1) (by decide)), C1, if_neg (fun e => absurd (hwd.symm.trans e.1) (by decide)), C2, if_neg (fun e => absurd (hwd.symm.trans e.1) (by decide)), C3, if_neg (fun e => absurd (hwd.symm.trans e.1) (by decide)), C4, if_neg (fun e => absurd (hwd.symm.trans e.1) (by decide)), C5, if_neg (fun e => absurd (hwd.symm.trans e.1) (by decide)), C6, if_pos ⟨hwd, hn⟩]
    rw [SP3_of _ hC (fun v => HC0_w _ v (by rw [hwd]; decide))]
    rw [runF, stepP, Option.bind_some, runF, stepS]
    show (if nb f2 = true then (1, 7, f1, eB, 0, 0, nv f2, eB, []) else bad) = _
    cases h : nm f2 with
    | none => rw [nb_none h]; rfl
    | some v => rw [nb_some h, nv_some h]; rfl
theorem hit_read (w : ByteArray) (a : List ByteArray) (hl : w.data.toList = [114, 101, 97, 100]) (hm : a.length = 3) : SP (w :: a) = endF 17 (runF [80, 78, 83] a st0) := by
  match a, hm with
  | [f1, f2, f3], _ =>
    have hn : (([w, f1, f2, f3] : List ByteArray).length : Int) = 4 := rfl
    have hwd : wd [w, f1, f2, f3] = [114, 101, 97, 100] := hl
    rw [SP_long _ (by rw [hn]; decide) (fun e => by rw [hn] at e; exact absurd e (by decide)) (by rw [hwd]; decide)]
    have hC : C0 [w, f1, f2, f3] = R7 [w, f1, f2, f3] := by rw [C0, if_neg (fun e => absurd (hwd.symm.trans e.1) (by decide)), C1, if_neg (fun e => absurd (hwd.symm.trans e.1) (by decide)), C2, if_neg (fun e => absurd (hwd.symm.trans e.1) (by decide)), C3, if_neg (fun e => absurd (hwd.symm.trans e.1) (by decide)), C4, if_neg (fun e => absurd (hwd.symm.trans e.1) (by decide)), C5, if_neg (fun e => absurd (hwd.symm.trans e.1) (by decide)), C6, if_neg (fun e => absurd (hwd.symm.trans e.1) (by decide)), C7, if_pos ⟨hwd, hn⟩]
    rw [SP3_of _ hC (fun v => HC0_w _ v (by rw [hwd]; decide))]
    rw [runF, stepP, Option.bind_some, runF, stepN]
    show (if (if nb f2 = true then nb f3 else false) = true then (1, 17, f1, eB, 0, nv f2, nv f3, eB, []) else bad) = _
    cases h : nm f2 with
    | none => rw [nb_none h]; rfl
    | some v =>
      rw [nb_some h, nv_some h, if_pos rfl, Option.map_some, Option.bind_some, runF, stepS]
      cases h3 : nm f3 with
      | none => rw [nb_none h3]; rfl
      | some u => rw [nb_some h3, nv_some h3]; rfl
theorem hit_stat (w : ByteArray) (a : List ByteArray) (hl : w.data.toList = [115, 116, 97, 116]) (hm : a.length = 1) : SP (w :: a) = endF 18 (runF [80] a st0) := by
  match a, hm with
  | [f1], _ =>
    have hn : (([w, f1] : List ByteArray).length : Int) = 2 := rfl
    have hwd : wd [w, f1] = [115, 116, 97, 116] := hl
    unfold SP
    rw [if_neg (by rw [hn]; decide)]
    unfold SP1
    rw [if_pos ⟨hn, by rw [hwd]; decide⟩, hwd]; rfl
theorem hit_lstat (w : ByteArray) (a : List ByteArray) (hl : w.data.toList = [108, 115, 116, 97, 116]) (hm : a.length = 1) : SP (w :: a) = endF 19 (runF [80] a st0) := by
  match a, hm with
  | [f1], _ =>
    have hn : (([w, f1] : List ByteArray).length : Int) = 2 := rfl
    have hwd : wd [w, f1] = [108, 115, 116, 97, 116] := hl
    unfold SP
    rw [if_neg (by rw [hn]; decide)]
    unfold SP1
    rw [if_pos ⟨hn, by rw [hwd]; decide⟩, hwd]; rfl
theorem hit_list (w : ByteArray) (a : List ByteArray) (hl : w.data.toList = [108, 105, 115, 116]) (hm : a.length = 1) : SP (w :: a) = endF 20 (runF [80] a st0) := by
  match a, hm with
  | [f1], _ =>
    have hn : (([w, f1] : List ByteArray).length : Int) = 2 := rfl
    have hwd : wd [w, f1] = [108, 105, 115, 116] := hl
    unfold SP
    rw [if_neg (by rw [hn]; decide)]
    unfold SP1
    rw [if_pos ⟨hn, by rw [hwd]; decide⟩, hwd]; rfl
theorem hit_readlink (w : ByteArray) (a : List ByteArray) (hl : w.data.toList = [114, 101, 97, 100, 108, 105, 110, 107]) (hm : a.length = 1) : SP (w :: a) = endF 21 (runF [80] a st0) := by
  match a, hm with
  | [f1], _ =>
    have hn : (([w, f1] : List ByteArray).length : Int) = 2 := rfl
    have hwd : wd [w, f1] = [114, 101, 97, 100, 108, 105, 110, 107] := hl
    unfold SP
    rw [if_neg (by rw [hn]; decide)]
    unfold SP1
    rw [if_pos ⟨hn, by rw [hwd]; decide⟩, hwd]; rfl
theorem hit_open (w : ByteArray) (a : List ByteArray) (hl : w.data.toList = [111, 112, 101, 110]) (hm : a.length = 1) : SP (w :: a) = endF 14 (runF [80] a st0) := by
  match a, hm with
  | [f1], _ =>
    have hn : (([w, f1] : List ByteArray).length : Int) = 2 := rfl
    have hwd : wd [w, f1] = [111, 112, 101, 110] := hl
    unfold SP
    rw [if_neg (by rw [hn]; decide)]
    unfold SP1
    rw [if_pos ⟨hn, by rw [hwd]; decide⟩, hwd]; rfl
theorem hit_close (w : ByteArray) (a : List ByteArray) (hl : w.data.toList = [99, 108, 111, 115, 101]) (hm : a.length = 1) : SP (w :: a) = endF 13 (runF [72] a st0) := by
  match a, hm with
  | [f1], _ =>
    have hn : (([w, f1] : List ByteArray).length : Int) = 2 := rfl
    have hwd : wd [w, f1] = [99, 108, 111, 115, 101] := hl
    rw [SP_long _ (by rw [hn]; decide) (fun e => by rw [hwd]; decide) (by rw [hwd]; decide)]
    have hC : ∀ v, HC0 [w, f1] v = HR0 [w, f1] v := fun v => by rw [HC0, if_pos ⟨hwd, hn⟩]
    rw [SP3_h _ (C0_w _ (by rw [hwd]; decide)) (by rw [hn]; decide), hC, runF, stepH]
    have e1 : g [w, f1] 1 = f1 := rfl
    rw [e1]
    cases h : nm f1 with
    | none => rw [nb_none h]; rfl
    | some v =>
      rw [nb_some h, nv_some h, if_pos rfl, Option.map_some, Option.bind_some]
      rfl
theorem hit_fstat (w : ByteArray) (a : List ByteArray) (hl : w.data.toList = [102, 115, 116, 97, 116]) (hm : a.length = 1) : SP (w :: a) = endF 16 (runF [72] a st0) := by
  match a, hm with
  | [f1], _ =>
    have hn : (([w, f1] : List ByteArray).length : Int) = 2 := rfl
    have hwd : wd [w, f1] = [102, 115, 116, 97, 116] := hl
    rw [SP_long _ (by rw [hn]; decide) (fun e => by rw [hwd]; decide) (by rw [hwd]; decide)]
    have hC : ∀ v, HC0 [w, f1] v = HR1 [w, f1] v := fun v => by rw [HC0, if_neg (fun e => absurd (hwd.symm.trans e.1) (by decide)), HC1, if_pos ⟨hwd, hn⟩]
    rw [SP3_h _ (C0_w _ (by rw [hwd]; decide)) (by rw [hn]; decide), hC, runF, stepH]
    have e1 : g [w, f1] 1 = f1 := rfl
    rw [e1]
    cases h : nm f1 with
    | none => rw [nb_none h]; rfl
    | some v =>
      rw [nb_some h, nv_some h, if_pos rfl, Option.map_some, Option.bind_some]
      rfl
theorem hit_pwrite (w : ByteArray) (a : List ByteArray) (hl : w.data.toList = [112, 119, 114, 105, 116, 101]) (hm : a.length = 3) : SP (w :: a) = endF 11 (runF [72, 78, 68] a st0) := by
  match a, hm with
  | [f1, f2, f3], _ =>
    have hn : (([w, f1, f2, f3] : List ByteArray).length : Int) = 4 := rfl
    have hwd : wd [w, f1, f2, f3] = [112, 119, 114, 105, 116, 101] := hl
    rw [SP_long _ (by rw [hn]; decide) (fun e => by rw [hn] at e; exact absurd e (by decide)) (by rw [hwd]; decide)]
    have hC : ∀ v, HC0 [w, f1, f2, f3] v = HR4 [w, f1, f2, f3] v := fun v => by rw [HC0, if_neg (fun e => absurd (hwd.symm.trans e.1) (by decide)), HC1, if_neg (fun e => absurd (hwd.symm.trans e.1) (by decide)), HC2, if_neg (fun e => absurd (hwd.symm.trans e.1) (by decide)), HC3, if_neg (fun e => absurd (hwd.symm.trans e.1) (by decide)), HC4, if_pos ⟨hwd, hn⟩]
    rw [SP3_h _ (C0_w _ (by rw [hwd]; decide)) (by rw [hn]; decide), hC, runF, stepH]
    have e1 : g [w, f1, f2, f3] 1 = f1 := rfl
    rw [e1]
    cases h : nm f1 with
    | none => rw [nb_none h]; rfl
    | some v =>
      rw [nb_some h, nv_some h, if_pos rfl, Option.map_some, Option.bind_some]
      rw [runF, stepN]
      show (if (if nb f2 = true then (uq f3).1 else false) = true then (1, 11, eB, eB, v, nv f2, 0, (uq f3).2, []) else bad) = _
      cases h2 : nm f2 with
      | none => rw [nb_none h2]; rfl
      | some u =>
        rw [nb_some h2, nv_some h2, if_pos rfl, Option.map_some, Option.bind_some, runF, stepD]
        split <;> rfl
theorem hit_ftrunc (w : ByteArray) (a : List ByteArray) (hl : w.data.toList = [102, 116, 114, 117, 110, 99]) (hm : a.length = 2) : SP (w :: a) = endF 12 (runF [72, 83] a st0) := by
  match a, hm with
  | [f1, f2], _ =>
    have hn : (([w, f1, f2] : List ByteArray).length : Int) = 3 := rfl
    have hwd : wd [w, f1, f2] = [102, 116, 114, 117, 110, 99] := hl
    rw [SP_long _ (by rw [hn]; decide) (fun e => by rw [hn] at e; exact absurd e (by decide)) (by rw [hwd]; decide)]
    have hC : ∀ v, HC0 [w, f1, f2] v = HR2 [w, f1, f2] v := fun v => by rw [HC0, if_neg (fun e => absurd (hwd.symm.trans e.1) (by decide)), HC1, if_neg (fun e => absurd (hwd.symm.trans e.1) (by decide)), HC2, if_pos ⟨hwd, hn⟩]
    rw [SP3_h _ (C0_w _ (by rw [hwd]; decide)) (by rw [hn]; decide), hC, runF, stepH]
    have e1 : g [w, f1, f2] 1 = f1 := rfl
    rw [e1]
    cases h : nm f1 with
    | none => rw [nb_none h]; rfl
    | some v =>
      rw [nb_some h, nv_some h, if_pos rfl, Option.map_some, Option.bind_some]
      rw [runF, stepS]
      show (if nb f2 = true then (1, 12, eB, eB, v, 0, nv f2, eB, []) else bad) = _
      cases h2 : nm f2 with
      | none => rw [nb_none h2]; rfl
      | some u => rw [nb_some h2, nv_some h2]; rfl
theorem hit_pread (w : ByteArray) (a : List ByteArray) (hl : w.data.toList = [112, 114, 101, 97, 100]) (hm : a.length = 3) : SP (w :: a) = endF 15 (runF [72, 78, 83] a st0) := by
  match a, hm with
  | [f1, f2, f3], _ =>
    have hn : (([w, f1, f2, f3] : List ByteArray).length : Int) = 4 := rfl
    have hwd : wd [w, f1, f2, f3] = [112, 114, 101, 97, 100] := hl
    rw [SP_long _ (by rw [hn]; decide) (fun e => by rw [hn] at e; exact absurd e (by decide)) (by rw [hwd]; decide)]
    have hC : ∀ v, HC0 [w, f1, f2, f3] v = HR3 [w, f1, f2, f3] v := fun v => by rw [HC0, if_neg (fun e => absurd (hwd.symm.trans e.1) (by decide)), HC1, if_neg (fun e => absurd (hwd.symm.trans e.1) (by decide)), HC2, if_neg (fun e => absurd (hwd.symm.trans e.1) (by decide)), HC3, if_pos ⟨hwd, hn⟩]
    rw [SP3_h _ (C0_w _ (by rw [hwd]; decide)) (by rw [hn]; decide), hC, runF, stepH]
    have e1 : g [w, f1, f2, f3] 1 = f1 := rfl
    rw [e1]
    cases h : nm f1 with
    | none => rw [nb_none h]; rfl
    | some v =>
      rw [nb_some h, nv_some h, if_pos rfl, Option.map_some, Option.bind_some]
      rw [runF, stepN]
      show (if (if nb f2 = true then nb f3 else false) = true then (1, 15, eB, eB, v, nv f2, nv f3, eB, []) else bad) = _
      cases h2 : nm f2 with
      | none => rw [nb_none h2]; rfl
      | some u =>
        rw [nb_some h2, nv_some h2, if_pos rfl, Option.map_some, Option.bind_some, runF, stepS]
        cases h3 : nm f3 with
        | none => rw [nb_none h3]; rfl
        | some z => rw [nb_some h3, nv_some h3]; rfl
theorem hit_sync (w : ByteArray) (a : List ByteArray) (hl : w.data.toList = [115, 121, 110, 99]) (hm : a.length = 0) : SP (w :: a) = endF 22 (runF [] a st0) := by
  match a, hm with
  | [], _ =>
    have hn : (([w] : List ByteArray).length : Int) = 1 := rfl
    have hwd : wd [w] = [115, 121, 110, 99] := hl
    unfold SP
    rw [if_pos hn, hwd, if_neg (by decide), if_neg (by decide), if_neg (by decide), if_pos (by decide)]; rfl
theorem hit_checkpoint (w : ByteArray) (a : List ByteArray) (hl : w.data.toList = [99, 104, 101, 99, 107, 112, 111, 105, 110, 116]) (hm : a.length = 0) : SP (w :: a) = endF 23 (runF [] a st0) := by
  match a, hm with
  | [], _ =>
    have hn : (([w] : List ByteArray).length : Int) = 1 := rfl
    have hwd : wd [w] = [99, 104, 101, 99, 107, 112, 111, 105, 110, 116] := hl
    unfold SP
    rw [if_pos hn, hwd, if_neg (by decide), if_neg (by decide), if_neg (by decide), if_pos (by decide)]; rfl
theorem hit_space (w : ByteArray) (a : List ByteArray) (hl : w.data.toList = [115, 112, 97, 99, 101]) (hm : a.length = 0) : SP (w :: a) = endF 24 (runF [] a st0) := by
  match a, hm with
  | [], _ =>
    have hn : (([w] : List ByteArray).length : Int) = 1 := rfl
    have hwd : wd [w] = [115, 112, 97, 99, 101] := hl
    unfold SP
    rw [if_pos hn, hwd, if_neg (by decide), if_neg (by decide), if_neg (by decide), if_pos (by decide)]; rfl
theorem hit_log (w : ByteArray) (a : List ByteArray) (hl : w.data.toList = [108, 111, 103]) (hm : a.length = 0) : SP (w :: a) = endF 25 (runF [] a st0) := by
  match a, hm with
  | [], _ =>
    have hn : (([w] : List ByteArray).length : Int) = 1 := rfl
    have hwd : wd [w] = [108, 111, 103] := hl
    unfold SP
    rw [if_pos hn, hwd, if_neg (by decide), if_neg (by decide), if_neg (by decide), if_pos (by decide)]; rfl
theorem SP_hit (w : ByteArray) (a : List ByteArray) (x : List UInt8 × Int × List UInt8) (hx : x ∈ Shp.words) (hl : w.data.toList = x.1) (hm : a.length = x.2.2.length) : SP (w :: a) = endF x.2.1 (runF x.2.2 a st0) := by
  unfold Shp.words at hx
  simp only [List.mem_cons, List.not_mem_nil, or_false] at hx
  rcases hx with rfl | rfl | rfl | rfl | rfl | rfl | rfl | rfl | rfl | rfl | rfl | rfl | rfl | rfl | rfl | rfl | rfl | rfl | rfl | rfl | rfl | rfl | rfl | rfl | rfl | rfl
  · exact hit_append w a hl hm
  · exact hit_checkpoint w a hl hm
  · exact hit_close w a hl hm
  · exact hit_create w a hl hm
  · exact hit_fill w a hl hm
  · exact hit_fstat w a hl hm
  · exact hit_ftrunc w a hl hm
  · exact hit_link w a hl hm
  · exact hit_list w a hl hm
  · exact hit_log w a hl hm
  · exact hit_lstat w a hl hm
  · exact hit_mkdir w a hl hm
  · exact hit_open w a hl hm
  · exact hit_pread w a hl hm
  · exact hit_pwrite w a hl hm
  · exact hit_read w a hl hm
  · exact hit_readlink w a hl hm
  · exact hit_rename w a hl hm
  · exact hit_rmdir w a hl hm
  · exact hit_space w a hl hm
  · exact hit_stat w a hl hm
  · exact hit_symlink w a hl hm
  · exact hit_sync w a hl hm
  · exact hit_trunc w a hl hm
  · exact hit_unlink w a hl hm
  · exact hit_write w a hl hm
theorem SP_ans (w : ByteArray) (a : List ByteArray) : SP (w :: a) = ans w a := by
  have hwd : wd (w :: a) = w.data.toList := rfl
  have hlen : ((w :: a).length : Int) = (a.length : Int) + 1 := by simp
  by_cases hT : w.data.toList = wTree ∨ w.data.toList = wCheck ∨ w.data.toList = wMount
  · have hno : ∀ x ∈ Shp.words, ¬ x.1 = wTree ∧ ¬ x.1 = wCheck ∧ ¬ x.1 = wMount := by decide
    unfold ans
    rw [if_pos hT]
    by_cases ha : (a.length : Int) > 0
    · rw [if_pos ha]
      refine SP_miss _ (fun x hx e => ?_) (fun e => by omega) ?_
      · rw [hwd] at e
        have := hno x hx
        rcases hT with h | h | h <;> rw [h] at e
        · exact this.1 e.1.symm
        · exact this.2.1 e.1.symm
        · exact this.2.2 e.1.symm
      · rw [hwd]
        rcases hT with h | h | h <;> rw [h] <;> decide
    · rw [if_neg ha]
      unfold SP
      rw [if_pos (by omega), hwd]
      unfold Shp.three
      rcases hT with h | h | h <;> rw [h] <;> rfl
  by_cases hA : w.data.toList = wArm ∨ w.data.toList = wCrash
  · have e : ans w a = numsR (w.data.toList == wArm) a := by unfold ans; rw [if_neg hT, if_pos hA]
    have s2 : SP2 (w :: a) = numsR (w.data.toList == wArm) a := by unfold SP2; rw [if_pos (by rw [hwd]; exact hA.symm)]; rfl
    have s1 : SP1 (w :: a) = numsR (w.data.toList == wArm) a := by
      unfold SP1
      rw [if_neg, s2]
      rw [hwd]
      rcases hA with h | h <;> rw [h] <;> exact fun e => absurd e.2 (by decide)
    rw [e]
    unfold SP
    by_cases hn : ((w :: a).length : Int) = 1
    · rw [if_pos hn, hwd, if_neg (fun e => hT (.inl e)), if_neg (fun e => hT (.inr (.inl e))), if_neg (fun e => hT (.inr (.inr e))), if_neg, s1]
      rcases hA with h | h <;> rw [h] <;> decide
    · rw [if_neg hn, s1]
  have miss : (∀ x ∈ Shp.words, ¬ (w.data.toList = x.1 ∧ (a.length : Int) + 1 = (x.2.2.length : Int) + 1)) → SP (w :: a) = bad := fun h =>
    SP_miss _ (fun x hx e => h x hx (by rw [hwd, hlen] at e; exact e)) (fun _ => hT) (by rw [hwd]; exact fun h => hA h.symm)
  unfold ans
  rw [if_neg hT, if_neg hA]
  cases hf : Shp.words.find? (fun x => x.1 == w.data.toList) with
  | none =>
    rw [if_pos (.inl (kf_none w hf))]
    refine miss (fun x hx e => ?_)
    exact List.find?_eq_none.1 hf x hx (beq_iff_eq.2 e.1.symm)
  | some x =>
    obtain ⟨hx, hl⟩ := find_mem hf
    obtain ⟨hk, hfm⟩ := kf_some w hf
    have hp := Shp.kinds_pos x hx
    have hsz : (Shp.form w).size = x.2.2.length := by rw [hfm]; exact List.size_toArray ..
    by_cases hm : a.length = x.2.2.length
    rotate_left
    · rw [if_pos (.inr (by rw [hsz]; exact hm))]
      refine miss (fun y hy e => ?_)
      have := keys_one x hx y hy (hl.symm.trans e.1)
      subst this
      omega
    rw [if_neg (by rw [hk, hsz]; exact fun h => h.elim hp (fun h => h hm)), hk, hfm]
    show SP (w :: a) = endF x.2.1 (runF x.2.2 a st0)
    clear hf hk hfm hp hsz miss
    exact SP_hit w a x hx hl hm
theorem sp_list : sp.data.toList = [32] := rfl
theorem bt_data (s : ByteArray) (i : Nat) (h : i < s.size) : bt s (i : Int) = ((s.data.toList[i]'(by simpa using h)).toNat : Int) := by
  have e : s[(i : Int).toNat]'(by simpa using h) = s.data.toList[i]'(by simpa using h) := rfl
  unfold bt
  rw [dif_pos (by simpa using h), e]
theorem occ_iff (l : List UInt8) (j : Nat) : Lib.occAt l [32] j = true ↔ l[j]? = some 32 := by
  unfold Lib.occAt
  rw [← List.head?_drop]
  cases h : l.drop j with
  | nil => simp
  | cons a t =>
    simp only [List.isPrefixOf, List.head?_cons, Option.some.injEq, Bool.and_true, beq_iff_eq]
    exact eq_comm
theorem ext_data (s : ByteArray) (q : Nat) : (s.extract q s.size).data.toList = s.data.toList.drop q := by
  rw [ByteArray.data_extract]
  simp only [Array.toList_extract, List.extract_eq_take_drop]
  rw [List.take_of_length_le]
  simp
/-- What indexB says of the text from q on. -/
theorem at_q (s : ByteArray) (q : Nat) (hq : q ≤ s.size) :
    (Lib.indexB (s.extract q s.size) sp = -1 ∧ ∀ j, q ≤ j → (h : j < s.size) → bt s (j : Int) ≠ 32) ∨
    (∃ i : Nat, Lib.indexB (s.extract q s.size) sp = i ∧ q + i < s.size ∧ bt s ((q + i : Nat) : Int) = 32 ∧ ∀ j, q ≤ j → j < q + i → bt s (j : Int) ≠ 32) := by
  have key : ∀ j, q ≤ j → (h : j < s.size) → (bt s (j : Int) = 32 ↔ Lib.occAt (s.extract q s.size).data.toList [32] (j - q) = true) := by
    intro j hj h
    rw [occ_iff, ext_data, List.getElem?_drop, show q + (j - q) = j by omega, bt_data s j h, List.getElem?_eq_getElem (by simpa using h)]
    constructor
    · intro e
      have : (s.data.toList[j]'(by simpa using h)).toNat = 32 := by omega
      rw [Option.some.injEq]
      exact UInt8.toNat_inj.1 this
    · intro e
      rw [Option.some.injEq] at e
      rw [e]; rfl
  have hl : (s.extract q s.size).data.toList.length = s.size - q := by rw [ext_data]; simp
  rcases Lib.index_spec (s.extract q s.size).data.toList [32] with ⟨e, hn⟩ | ⟨i, e, hi, ho, hn⟩
  · left
    refine ⟨e, fun j hj h c => ?_⟩
    have := (key j hj h).1 c
    rw [hn (j - q) (by omega)] at this
    cases this
  · right
    have hlt : i < s.size - q := by
      have := (occ_iff _ i).1 ho
      have h2 := List.getElem?_eq_some_iff.1 this
      obtain ⟨h3, _⟩ := h2
      omega
    refine ⟨i, e, by omega, ?_, fun j hj h c => ?_⟩
    · have := key (q + i) (by omega) (by omega)
      rw [show q + i - q = i by omega] at this
      exact this.2 ho
    · have := (key j hj (by omega)).1 c
      rw [hn (j - q) (by omega)] at this
      cases this
/-- The reference's loop runs over bytes that are no slash. -/
theorem cut_skip (s : ByteArray) (hs : s.size ≤ 1048576) (acc : List ByteArray) (q : Nat) (r : List ByteArray) (n : Nat) (hn : n ≤ s.size) (fin : Ev (fun k => spec_l10Cut.l0 k s 32 acc (q : Int) (n : Int)) r) :
    ∀ d i : Nat, i + d = n → (∀ j, i ≤ j → j < n → bt s (j : Int) ≠ 32) → Ev (fun k => spec_l10Cut.l0 k s 32 acc (q : Int) (i : Int)) r := by
  intro d
  induction d with
  | zero => intro i hi _; obtain rfl : i = n := by omega
            exact fin
  | succ d ih =>
    intro i hi hno
    have hw : wrap64 ((i : Int) + 1) = ((i + 1 : Nat) : Int) := by unfold wrap64; omega
    refine Ev.step (fun k => ?_) (ih (i + 1) (by omega) (fun j h1 h2 => hno j (by omega) h2))
    simp only [spec_l10Cut.l0]
    rw [if_pos (by omega), if_pos (by omega), if_neg (hno i (by omega) (by omega)), hw]
theorem ext_ext0 (s : ByteArray) (q i : Nat) (h : q + i ≤ s.size) : (s.extract q s.size).extract 0 (i + 0) = s.extract q (q + i) := by
  apply ByteArray.ext
  apply Array.toList_inj.1
  rw [ByteArray.data_extract, ByteArray.data_extract, ByteArray.data_extract]
  simp only [Array.toList_extract, List.extract_eq_take_drop, List.drop_zero, Nat.sub_zero, Nat.add_zero]
  rw [List.take_take, show q + i - q = i by omega]
  congr 1
  omega
theorem ext_ext1 (s : ByteArray) (q i : Nat) (h : q + i < s.size) : (s.extract q s.size).extract (i + sp.size) (s.extract q s.size).size = s.extract (q + i + 1) s.size := by
  apply ByteArray.ext
  apply Array.toList_inj.1
  rw [ext_data, ext_data, ext_data, List.drop_drop]
  congr 1
/-- The reference's cut at a slash is the library's Split. -/
theorem cut_ev (s : ByteArray) (hs : s.size ≤ 1048576) : ∀ (m q : Nat) (acc : List ByteArray), s.size - q ≤ m → q ≤ s.size → acc.length ≤ q →
    Ev (fun k => spec_l10Cut.l0 k s 32 acc (q : Int) (q : Int)) (acc ++ Lib.splitB sp 0 (Lib.countB (s.extract q s.size) sp) (s.extract q s.size)) := by
  intro m
  have h1 : 1 ≤ sp.size := by decide
  induction m with
  | zero =>
    intro q acc hm hq ha
    obtain rfl : q = s.size := by omega
    have e : Lib.indexB (s.extract s.size s.size) sp = -1 := by
      rcases at_q s s.size (Nat.le_refl _) with h | ⟨i, _, h, _⟩
      · exact h.1
      · omega
    rw [Lib.splitB_miss _ _ _ _ e]
    refine Ev.step (f := fun _ => some (acc ++ [s.extract s.size s.size])) (fun k => ?_) (Ev.now _)
    simp only [spec_l10Cut.l0]
    rw [if_neg (by omega), if_pos (by omega), if_pos (by omega), if_pos (by omega), Int.toNat_natCast]
  | succ m ih =>
    intro q acc hm hq ha
    rcases at_q s q hq with ⟨e, hno⟩ | ⟨i, e, hi, h32, hno⟩
    · rw [Lib.splitB_miss _ _ _ _ e]
      refine cut_skip s hs acc q _ s.size (Nat.le_refl _) ?_ (s.size - q) q (by omega) (fun j h1 h2 => hno j h1 h2)
      refine Ev.step (f := fun _ => some (acc ++ [s.extract q s.size])) (fun k => ?_) (Ev.now _)
      simp only [spec_l10Cut.l0]
      rw [if_neg (by omega), if_pos (by omega), if_pos (by omega), if_pos (by omega), Int.toNat_natCast]
    · rw [Lib.countB_hit _ _ i h1 e, ext_ext1 s q i hi, Nat.add_comm 1, Lib.splitB_hit _ _ _ _ i e, ext_ext1 s q i hi, ext_ext0 s q i (by omega)]
      refine cut_skip s hs acc q _ (q + i) (by omega) ?_ i q (by omega) (fun j h1 h2 => hno j h1 h2)
      have hw : wrap64 (((q + i : Nat) : Int) + 1) = ((q + i + 1 : Nat) : Int) := by unfold wrap64; omega
      have := ih (q + i + 1) (acc ++ [s.extract q (q + i)]) (by omega) (by omega) (by simp; omega)
      rw [List.append_assoc, List.singleton_append] at this
      refine Ev.step (fun k => ?_) this
      simp only [spec_l10Cut.l0]
      rw [if_pos (by omega), if_pos (by omega), if_pos h32, if_pos (by omega), if_pos (by omega), if_pos (by omega), if_pos (by omega), hw, Int.toNat_natCast, Int.toNat_natCast]
theorem cut_all (s : ByteArray) (hs : s.size ≤ 1048576) : Ev (fun k => spec_l10Cut.f k s 32) (fields s) := by
  have := cut_ev s hs s.size 0 [] (by omega) (by omega) (by simp)
  rw [show s.extract 0 s.size = s from by apply ByteArray.ext; apply Array.toList_inj.1; rw [ext_data]; rfl, List.nil_append] at this
  exact this
theorem spec_fields (fs : List ByteArray) (hl : fs.length ≤ 1048576) (h0 : 0 < fs.length) (hs : ∀ f ∈ fs, f.size ≤ 1048576) : ∀ (e i : Nat), i + e = fs.length → (∀ j (h : j < fs.length), j < i → (fs[j]).data.toList ≠ []) → Ev (fun k => spec_ParseLine.l0 k fs (i : Int)) (ansL fs) := by
  intro e
  induction e with
  | zero =>
    intro i hi hne
    have := sp_ev fs h0 hl hs (i : Int) (by omega)
    cases fs with
    | nil => simp at h0
    | cons w a =>
      have hany : ¬ (w :: a).any (fun f => f.data.toList.isEmpty) = true := by
        intro h
        obtain ⟨f, hf, h2⟩ := List.any_eq_true.1 h
        obtain ⟨j, hj, rfl⟩ := List.getElem_of_mem hf
        exact hne j hj (by omega) (List.isEmpty_iff.1 h2)
      rw [show ansL (w :: a) = ans w a from if_neg hany, ← SP_ans]
      exact this
  | succ e ih =>
    intro i hi hne
    have hia : i < fs.length := by omega
    have ei : wrap64 ((i : Int) + 1) = ((i + 1 : Nat) : Int) := by rw [w64 (by omega) (by omega)]; rfl
    have st : ∀ k, spec_ParseLine.l0 (k + 1) fs (i : Int) = if (fs[i]).data.toList = [] then some bad else spec_ParseLine.l0 k fs ((i + 1 : Nat) : Int) := fun k => by
      simp only [spec_ParseLine.l0]
      rw [if_pos (by omega), if_pos (by omega), rdS fs i hia, tl_list, ei]; rfl
    by_cases h : (fs[i]).data.toList = []
    · have : ansL fs = bad := by
        cases fs with
        | nil => rfl
        | cons w a =>
          unfold ansL
          exact if_pos (List.any_eq_true.2 ⟨(w :: a)[i], List.getElem_mem _, List.isEmpty_iff.2 h⟩)
      rw [this]
      exact Ev.step (f := fun _ => some bad) (fun k => (st k).trans (if_pos h)) (Ev.now _)
    · refine Ev.step (fun k => (st k).trans (if_neg h)) (ih (i + 1) (by omega) (fun j hj h2 => ?_))
      rcases Nat.lt_or_eq_of_le (Nat.le_of_lt_succ h2) with h3 | rfl
      · exact hne j hj h3
      · exact h
theorem fields_pos (s : ByteArray) : 0 < (fields s).length := by
  have e : (fields s).length = Lib.countB s sp + 1 := Lib.splitB_all sp (by decide) 0 _ s rfl
  omega
theorem spec_parse (l : List Int) (hl : l.length ≤ 1048576) : Ev (fun k => spec_ParseLine.f k l) (parse (strOfNums l)) := by
  have hlen : (strOfNums l).size = l.length := strOfNums_size l
  have hsz : (strOfNums l).size ≤ 1048576 := by omega
  unfold parse
  by_cases h1 : (l.length : Int) > 65536
  · rw [if_pos (by omega)]
    exact Ev.congr (f := fun _ => some bad) (fun k => by unfold spec_ParseLine.f; rw [if_pos h1]; rfl) (Ev.now _)
  rw [if_neg (by omega)]
  generalize hS : strOfNums l = s at *
  have hfl := fields_le s
  have main : Ev (fun k => spec_ParseLine.f k l) (ansL (fields s)) := by
    refine Ev.congr (f := fun k => (spec_l10Cut.f k s 32).bind fun t232 => (spec_ParseLine.l0 k t232 0)) (fun k => by unfold spec_ParseLine.f; rw [if_neg h1, hS]) ((cut_all s hsz).bind ?_)
    exact spec_fields (fields s) (by omega) (fields_pos s) (fun f hf => split_small sp 1048576 _ s hsz f hf) (fields s).length 0 (by omega) (fun j hj h => absurd h (by omega))
  by_cases h2 : s.data.toList = []
  · rw [if_pos h2]
    have e : ansL (fields s) = bad := by
      have h3 : s.size = 0 := by rw [← len_size, h2]; rfl
      have h4 : (fields s).length ≤ 1 := by omega
      have h5 : ∀ f ∈ fields s, f.size ≤ 0 := fun f hf => split_small sp 0 _ s (by omega) f hf
      cases hf : fields s with
      | nil => rfl
      | cons w a =>
        have : w.data.toList = [] := List.eq_nil_of_length_eq_zero (by rw [len_size]; have := h5 w (by rw [hf]; simp); omega)
        unfold ansL
        exact if_pos (List.any_eq_true.2 ⟨w, by simp, List.isEmpty_iff.2 this⟩)
    rw [← e]; exact main
  · rw [if_neg h2]; exact main
def numsOf (r : Res) : List Int := r.2.2.2.2.2.2.2.2
theorem numsR_len (b : Bool) (a : List ByteArray) : (numsOf (numsR b a)).length ≤ 601 := by
  unfold numsR
  cases a.mapM nm with
  | none => exact Nat.zero_le _
  | some ns =>
    dsimp only
    by_cases hb : b = true
    · rw [if_pos hb]
      by_cases h1 : (ns.length : Int) - 1 < 0
      · rw [if_pos h1]; exact Nat.zero_le _
      rw [if_neg h1]
      by_cases h2 : rd ns 0 < 1
      · rw [if_pos h2]; exact Nat.zero_le _
      rw [if_neg h2]
      by_cases h3 : (ns.length : Int) - 1 > 600
      · rw [if_pos h3]; exact Nat.zero_le _
      rw [if_neg h3]
      show ns.length ≤ 601
      omega
    · rw [if_neg hb]
      by_cases h3 : (ns.length : Int) > 600
      · rw [if_pos h3]; exact Nat.zero_le _
      rw [if_neg h3]
      show ns.length ≤ 601
      omega
theorem ans_len (w : ByteArray) (a : List ByteArray) : (numsOf (ans w a)).length ≤ 601 := by
  unfold ans
  split
  · split <;> exact Nat.zero_le _
  · split
    · exact numsR_len _ _
    · split
      · exact Nat.zero_le _
      · cases runF (Shp.form w).data.toList a st0 <;> exact Nat.zero_le _
theorem parse_len (s : ByteArray) : (numsOf (parse s)).length ≤ 601 := by
  unfold parse
  split
  · exact Nat.zero_le _
  · split
    · exact Nat.zero_le _
    · cases fields s with
      | nil => exact Nat.zero_le _
      | cons w a =>
        have e : ansL (w :: a) = if (w :: a).any (fun f => f.data.toList.isEmpty) = true then bad else ans w a := rfl
        rw [e]
        split
        · exact Nat.zero_le _
        · exact ans_len w a
end PL
theorem FnExactParseLine : laws_FnExactParseLine.Pure := by
  intro l _ hl hw
  by_cases h : (l.length : Int) > 1048576
  · exact ⟨0, by unfold laws_FnExactParseLine.f; rw [if_pos h]⟩
  have t := toS_ev (F := laws_toByteS.f) (fun _ _ => rfl) (fun _ _ _ _ => rfl) l (by omega) (by omega)
  have et := eqS_ev (F := laws_eqByteS.f) (fun _ _ _ => rfl) (fun _ _ _ _ => rfl) l (by omega)
  have mt : Ev (fun k => laws_markByteS.f k l 1) _ := mark_ev (fun x => x % 256) (L := laws_markByteS.l0) (fun _ _ _ _ => rfl) l 1 (by omega) (by omega)
  have s := PL.spec_parse l (by omega)
  have i := PL.impl_parse l (by omega)
  have hr := PL.parse_len (strOfNums l)
  generalize PL.parse (strOfNums l) = r at s i hr
  obtain ⟨r1, r2, r3, r4, r5, r6, r7, r8, r9⟩ := r
  replace hr : r9.length ≤ 601 := hr
  have e0 := eqS_ev (F := laws_eqInt64S.f) (fun _ _ _ => rfl) (fun _ _ _ _ => rfl) r9 (by omega)
  have m0 : Ev (fun k => laws_markInt64S.f k r9 1) _ := mark_ev (fun x => x) (L := laws_markInt64S.l0) (fun _ _ _ _ => rfl) r9 1 (by omega) (by omega)
  have d0 : Ev (fun k => laws_heldInt64S.f k _ 1) _ := held_ev (fun x => x) (L := laws_heldInt64S.l0) (fun _ _ _ _ => rfl) r9.length 1 (by omega) (by omega)
  have ec : laws_eqCall.f r2 r3 r4 r5 r6 r7 r8 r2 r3 r4 r5 r6 r7 r8 = some true := by
    unfold laws_eqCall.f; rw [if_pos rfl, if_pos rfl, if_pos rfl, if_pos rfl, if_pos rfl, if_pos rfl, if_pos rfl]
  have e : Ev (fun k => laws_eqLine.f k r1 r2 r3 r4 r5 r6 r7 r8 r9 r1 r2 r3 r4 r5 r6 r7 r8 r9) true :=
    Ev.congr (fun k => by unfold laws_eqLine.f; rw [if_pos rfl, ec, Option.bind_some, if_pos rfl]) (e0.bind (Ev.congr (fun k => if_pos rfl) (Ev.now true)))
  have m : Ev (fun k => laws_markLine.f k r1 r2 r3 r4 r5 r6 r7 r8 r9 1) (1 + (r9.length : Int), marks (fun x => x) 1 r9.length) := m0.bind (Ev.now _)
  have hd : Ev (fun k => laws_heldLine.f k r1 r2 r3 r4 r5 r6 r7 r8 (marks (fun x => x) 1 r9.length) 1) (1 + (r9.length : Int)) :=
    d0.bind (Ev.congr (fun k => if_neg (by omega)) (Ev.now _))
  refine Ev.rounds (Ev.congr (fun k => by unfold laws_FnExactParseLine.f; rw [if_neg h]) ?_)
  refine t.bind ?_
  refine s.bind ?_
  refine t.bind ?_
  refine i.bind ?_
  refine e.bind ?_
  refine Ev.congr (fun k => if_pos rfl) ?_
  refine t.bind ?_
  refine et.bind ?_
  refine Ev.congr (fun k => if_pos rfl) ?_
  refine mt.bind ?_
  refine Ev.congr (fun k => if_neg (by simp only; omega)) ?_
  refine e.bind ?_
  refine Ev.step (fun k => by simp only [laws_FnExactParseLine.j0]; rw [if_neg (by decide)]) ?_
  refine m.bind ?_
  refine hd.bind ?_
  refine Ev.congr (fun k => if_neg (by omega)) ?_
  refine Ev.congr (fun k => if_pos rfl) ?_
  refine t.bind ?_
  refine i.bind ?_
  refine e.bind ?_
  refine Ev.congr (fun k => if_pos rfl) ?_
  refine hd.bind ?_
  refine Ev.congr (fun k => if_neg (by omega)) ?_
  exact Ev.congr (fun k => if_pos rfl) (Ev.now true)
end Go.Proofs.YtkehfdadplpaeaaDoor.Pure
