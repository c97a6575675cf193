import Derived.Test.YtiiifeajcigigaaWWords
import Derived.Test.YtiiifeajcigigaaWMore
import Derived.WalkLawsBesides
import Derived.Sort.Walk0
/- Texts compared: '>' as the walk tells it and as the print does. -/
namespace Go.Proofs.Ytiiifeajcigigaa.Str
set_option linter.unusedSimpArgs false
theorem bl_eq (x y : List UInt8) : Op.bytesLess x y = decide (x < y) := bytesLess_eq x y
theorem bl_gt (x y : List UInt8) : (!Op.bytesLess x y && !(x == y)) = Op.bytesLess y x := by
  rw [bl_eq, bl_eq]
  by_cases h : y < x
  · have h1 : ¬ x < y := fun h2 => absurd (List.lt_trans h h2) (List.lt_irrefl _)
    have h2 : x ≠ y := fun e => by subst e; exact absurd h (List.lt_irrefl _)
    simp [h, h1, h2]
  · by_cases h1 : x < y
    · simp [h, h1]
    · have : x = y := List.le_antisymm (List.not_lt.1 h) (List.not_lt.1 h1)
      simp [this]
end Go.Proofs.Ytiiifeajcigigaa.Str
