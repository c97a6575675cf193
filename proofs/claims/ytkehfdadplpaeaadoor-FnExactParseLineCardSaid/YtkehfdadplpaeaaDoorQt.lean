import GoSem.Claim
/- The plain function of quoting, of no program: a byte that is printable and no '%' stands for itself, any other as '%' and two digits. -/
namespace Go.Proofs.YtkehfdadplpaeaaDoor.Qt
def qp (c : UInt8) : Bool := decide (33 ≤ c.toNat) && decide (c.toNat ≤ 126) && decide (c.toNat ≠ 37)
def hx (n : Nat) : UInt8 := if n < 10 then (48 + n).toUInt8 else (87 + n).toUInt8
def qb (c : UInt8) : List UInt8 := if qp c = true then [c] else [37, hx (c.toNat / 16), hx (c.toNat % 16)]
def ql (l : List UInt8) : List UInt8 := l.flatMap qb
def qF (s : ByteArray) : Option ByteArray := if s.size > 65536 then some ⟨#[]⟩ else if s.size = 0 then some ⟨#[37]⟩ else some ⟨(ql s.data.toList).toArray⟩
theorem qb_len (c : UInt8) : (qb c).length ≤ 3 := by unfold qb; split <;> simp
theorem ql_len (l : List UInt8) : (ql l).length ≤ 3 * l.length := by
  induction l with
  | nil => simp [ql]
  | cons c r ih =>
    have h := qb_len c
    simp only [ql, List.flatMap_cons, List.length_append, List.length_cons] at ih ⊢
    omega
theorem take_snoc (s : ByteArray) (k : Nat) (h : k < s.size) : s.data.toList.take (k + 1) = s.data.toList.take k ++ [s[k]] := by
  rw [List.take_succ_eq_append_getElem (by simpa using h)]; rfl
theorem ql_snoc (s : ByteArray) (k : Nat) (h : k < s.size) : ql (s.data.toList.take (k + 1)) = ql (s.data.toList.take k) ++ qb s[k] := by
  rw [take_snoc s k h]; simp [ql]
theorem take_all (s : ByteArray) : s.data.toList.take s.size = s.data.toList := List.take_of_length_le (by simp)
theorem hex_at (n : Nat) (h : n < 16) : ∀ h' : n < (⟨#[48, 49, 50, 51, 52, 53, 54, 55, 56, 57, 97, 98, 99, 100, 101, 102]⟩ : ByteArray).size, (⟨#[48, 49, 50, 51, 52, 53, 54, 55, 56, 57, 97, 98, 99, 100, 101, 102]⟩ : ByteArray)[n] = hx n := by
  intro h'
  match n, h with
  | 0, _ | 1, _ | 2, _ | 3, _ | 4, _ | 5, _ | 6, _ | 7, _ | 8, _ | 9, _ | 10, _ | 11, _ | 12, _ | 13, _ | 14, _ | 15, _ => rfl
  | n + 16, h => exact absurd h (by omega)
end Go.Proofs.YtkehfdadplpaeaaDoor.Qt
