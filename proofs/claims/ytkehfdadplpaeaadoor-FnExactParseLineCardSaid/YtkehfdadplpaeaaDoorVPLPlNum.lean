/- Numbers of the script's lines, plainly: what a text of at most nine digits tells. -/
import Derived.Lib.ItoaMem
import Derived.Lib.ParseIntBCases
import Derived.Test.YtkehfdadplpaeaaDoorVPLHlp
namespace Go.Proofs.YtkehfdadplpaeaaDoor.PlN
open Go.RowKit Go.Proofs.YtkehfdadplpaeaaDoorW.PrintWords Go.Proofs.YtkehfdadplpaeaaDoorW.PrintMore Go.Proofs.YtkehfdadplpaeaaDoor.Hlp
set_option linter.unusedVariables false
/-- The number that digits tell behind what acc told. -/
def decV : Nat → List UInt8 → Nat
  | acc, [] => acc
  | acc, c :: r => decV (acc * 10 + (c.toNat - 48)) r
def isD (c : UInt8) : Bool := decide (48 ≤ c.toNat) && decide (c.toNat ≤ 57)
theorem isD_iff (c : UInt8) : isD c = true ↔ 48 ≤ c.toNat ∧ c.toNat ≤ 57 := by simp [isD]
/-- Digits in the one form that a number (but nought) is written in. -/
def okU (t : List UInt8) : Bool := decide (1 ≤ t.length) && decide (t.length ≤ 9) && decide (t.head? ≠ some 48) && t.all isD
theorem okU_iff (t : List UInt8) : okU t = true ↔ 1 ≤ t.length ∧ t.length ≤ 9 ∧ t.head? ≠ some 48 ∧ t.all isD = true := by
  simp only [okU, Bool.and_eq_true, decide_eq_true_eq]; exact ⟨fun h => ⟨h.1.1.1, h.1.1.2, h.1.2, h.2⟩, fun h => ⟨⟨⟨h.1, h.2.1⟩, h.2.2.1⟩, h.2.2.2⟩⟩
def nmU (t : List UInt8) : Option Nat := if okU t = true then some (decV 0 t) else none
/-- The number that a text is. -/
def nmL (l : List UInt8) : Option Int :=
  if l = [48] then some 0 else if l.head? = some 45 then (nmU l.tail).map fun (n : Nat) => -(n : Int) else (nmU l).map fun (n : Nat) => (n : Int)
def nm (s : ByteArray) : Option Int := nmL s.data.toList
def nv (s : ByteArray) : Int := (nm s).getD 0
def nb (s : ByteArray) : Bool := (nm s).isSome
theorem decV_snoc (acc : Nat) (l : List UInt8) (c : UInt8) : decV acc (l ++ [c]) = decV acc l * 10 + (c.toNat - 48) := by
  induction l generalizing acc with
  | nil => rfl
  | cons a r ih => exact ih _
theorem decV_ge (l : List UInt8) : ∀ acc, acc ≤ decV acc l := by
  induction l with
  | nil => intro acc; exact Nat.le_refl _
  | cons c r ih => intro acc; exact Nat.le_trans (by omega) (ih _)
theorem decV_lt (l : List UInt8) (h : l.all isD = true) : ∀ acc j, acc < 10 ^ j → decV acc l < 10 ^ (j + l.length) := by
  induction l with
  | nil => intro acc j ha; exact ha
  | cons c r ih =>
    intro acc j ha
    rw [List.all_cons, Bool.and_eq_true, isD_iff] at h
    have := ih h.2 (acc * 10 + (c.toNat - 48)) (j + 1) (by rw [Nat.pow_succ]; omega)
    rwa [show j + 1 + r.length = j + (c :: r).length by simp; omega] at this
theorem decV_pos (l : List UInt8) (h : l.all isD = true) (h0 : l.head? ≠ some 48) (hl : 1 ≤ l.length) : 1 ≤ decV 0 l := by
  cases l with
  | nil => simp at hl
  | cons c r =>
    rw [List.all_cons, Bool.and_eq_true, isD_iff] at h
    refine Nat.le_trans ?_ (decV_ge r _)
    have : c.toNat ≠ 48 := fun e => h0 (by rw [List.head?_cons]; exact congrArg some (UInt8.toNat_inj.1 e))
    omega
theorem isD_of (c : UInt8) (h : isD c = true) : UInt8.ofNat (48 + (c.toNat - 48)) = c := by
  rw [isD_iff] at h
  rw [show 48 + (c.toNat - 48) = c.toNat by omega]; exact UInt8.ofNat_toNat
/-- Digits with no nought ahead are how their number is written. -/
theorem dec_back : ∀ (n : Nat) (l : List UInt8), l.length = n → l.all isD = true → l.head? ≠ some 48 → 1 ≤ l.length → Lib.decDigits (decV 0 l) = l := by
  intro n
  induction n with
  | zero => intro l hl _ _ h; omega
  | succ n ih =>
    intro l hl ha h0 _
    obtain ⟨i, c, rfl⟩ : ∃ i c, l = i ++ [c] := ⟨l.dropLast, l.getLast (by intro e; rw [e] at hl; simp at hl), (List.dropLast_concat_getLast _).symm⟩
    rw [List.length_append, List.length_singleton] at hl
    rw [List.all_append, Bool.and_eq_true, List.all_cons, List.all_nil, Bool.and_true] at ha
    have hc := (isD_iff c).1 ha.2
    by_cases hi : i = []
    · subst hi
      show Lib.decDigits (0 * 10 + (c.toNat - 48)) = [c]
      rw [Lib.decDigits, dif_pos (by omega), Nat.zero_mul, Nat.zero_add, isD_of c ha.2]
    · have hl1 : 1 ≤ i.length := by rcases i with _ | ⟨a, r⟩; exact absurd rfl hi; simp
      have h1 : i.head? ≠ some 48 := by rcases i with _ | ⟨a, r⟩; exact absurd rfl hi; exact h0
      have hp := decV_pos i ha.1 h1 hl1
      rw [decV_snoc, Lib.decDigits, dif_neg (by omega), show (decV 0 i * 10 + (c.toNat - 48)) / 10 = decV 0 i by omega, show (decV 0 i * 10 + (c.toNat - 48)) % 10 = c.toNat - 48 by omega, ih i (by omega) ha.1 h1 hl1, isD_of c ha.2]
theorem decDigits_head : ∀ (m u : Nat), u ≤ m → 1 ≤ u → (Lib.decDigits u).head? ≠ some 48 := by
  intro m
  induction m with
  | zero => intro u h1 h2; omega
  | succ m ih =>
    intro u h1 h2
    by_cases h : u < 10
    · rw [Lib.decDigits, dif_pos h]
      have : ∀ n : Fin 10, 1 ≤ n.1 → UInt8.ofNat (48 + n.1) ≠ 48 := by decide
      intro e
      exact this ⟨u, h⟩ h2 (Option.some.inj e)
    · rw [Lib.decDigits, dif_neg h]
      have hne : Lib.decDigits (u / 10) ≠ [] := by
        intro e
        have := Lib.decDigits_length (u / 10)
        rw [e] at this
        have := Lib.nDigits_pos (u / 10)
        simp at *; omega
      have hi := ih (u / 10) (by omega) (by omega)
      cases hc : Lib.decDigits (u / 10) with
      | nil => exact absurd hc hne
      | cons a r => rw [hc] at hi; exact hi
theorem decDigits_zero : Lib.decDigits 0 = [48] := by rw [Lib.decDigits, dif_pos (by omega)]; rfl
theorem dec_iff (l : List UInt8) (ha : l.all isD = true) (hl : 1 ≤ l.length) : Lib.decDigits (decV 0 l) = l ↔ l.head? ≠ some 48 ∨ l = [48] := by
  constructor
  · intro h
    by_cases h0 : l.head? = some 48
    · right
      rcases Nat.eq_zero_or_pos (decV 0 l) with e | e
      · rw [e, decDigits_zero] at h; exact h.symm
      · exact absurd (by rw [h]; exact h0) (decDigits_head _ _ (Nat.le_refl _) e)
    · exact .inl h0
  · rintro (h | rfl)
    · exact dec_back _ l rfl ha h hl
    · show Lib.decDigits 0 = [48]
      exact decDigits_zero
theorem uintM (M : Nat) (hM : 1000000000 ≤ M) : ∀ (l : List UInt8) (acc : Nat) (j : Nat), l.all isD = true → acc < 10 ^ j → j + l.length ≤ 9 → Lib.parseUintM M acc l = .ok (decV acc l) := by
  intro l
  induction l with
  | nil => intro acc j _ _ _; rfl
  | cons c r ih =>
    intro acc j ha hacc hj
    rw [List.all_cons, Bool.and_eq_true, isD_iff] at ha
    rw [List.length_cons] at hj
    have hb : acc * 10 + (c.toNat - 48) < 10 ^ (j + 1) := by rw [Nat.pow_succ]; omega
    have h9 : 10 ^ (j + 1) ≤ 10 ^ 9 := Nat.pow_le_pow_right (by omega) (by omega)
    have : (10 : Nat) ^ 9 = 1000000000 := by decide
    unfold Lib.parseUintM
    rw [if_pos ha.1, if_neg (by omega), if_neg (by omega), ih _ (j + 1) ha.2 hb (by omega)]
    rfl
theorem u64M : (1000000000 : Nat) ≤ 2 ^ 64 - 1 := by decide
theorem c63 : (2 : Nat) ^ (64 - 1) = 9223372036854775808 := by decide
theorem lt9 (l : List UInt8) (ha : l.all isD = true) (h9 : l.length ≤ 9) : decV 0 l < 1000000000 := by
  have h := decV_lt l ha 0 0 (by decide)
  have h9 : 10 ^ (0 + l.length) ≤ 10 ^ 9 := Nat.pow_le_pow_right (by omega) (by omega)
  have : (10 : Nat) ^ 9 = 1000000000 := by decide
  omega
theorem uintB (l : List UInt8) (ha : l.all isD = true) (h1 : 1 ≤ l.length) (h9 : l.length ≤ 9) : Lib.parseUintB 64 l = .ok (decV 0 l) := by
  unfold Lib.parseUintB
  rw [if_neg (by intro e; rw [e] at h1; simp at h1)]
  exact uintM _ u64M l 0 0 ha (by decide) (by omega)
theorem intB_neg (l : List UInt8) (h : okU l = true) : Lib.parseIntB 64 (45 :: l) = .ok (-(decV 0 l : Int)) := by
  obtain ⟨h1, h9, _, ha⟩ := (okU_iff l).1 h
  have := lt9 l ha h9
  rw [Lib.parseIntB_minus, uintB l ha h1 h9, Lib.signedC, c63, if_neg (by omega)]
theorem intB_pos (l : List UInt8) (h : okU l = true) : Lib.parseIntB 64 l = .ok ((decV 0 l : Nat) : Int) := by
  obtain ⟨h1, h9, _, ha⟩ := (okU_iff l).1 h
  have := lt9 l ha h9
  cases l with
  | nil => simp at h1
  | cons c r =>
    have hc := ha
    rw [List.all_cons, Bool.and_eq_true, isD_iff] at hc
    rw [Lib.parseIntB_plain 64 c r (by omega) (by omega), uintB _ ha h1 h9, Lib.signlessC, c63, if_neg (by omega)]
end Go.Proofs.YtkehfdadplpaeaaDoor.PlN
