/- FnExactQuote: at every text the program's Quote answers as the reference's: both are the one plain function of quoting. -/
import Derived.Test.YtikandlenlhdkaaPFnExactQuotex1
namespace Go.Proofs.Ytikandlenlhdkaa.Pure
open Go.RowKit Go.Proofs.Ytikandlenlhdkaa.PFnExactQuote Go.Proofs.YtikandlenlhdkaaW.PrintWords Go.Proofs.YtikandlenlhdkaaW.PrintLast
theorem FnExactQuote : laws_FnExactQuote.Pure := by
  intro a0 _
  unfold laws_FnExactQuote.f
  by_cases h : (a0.size : Int) > 1048576
  · rw [if_pos h]
  · rw [if_neg h]
    have ha : ∃ r, Qt.qF a0 = some r := by
      unfold Qt.qF
      split
      · exact ⟨_, rfl⟩
      · split <;> exact ⟨_, rfl⟩
    obtain ⟨r, hr⟩ := ha
    unfold spec_Quote.f impl_Quote.f
    rw [hr, Option.bind_some, Option.bind_some, if_pos rfl]
end Go.Proofs.Ytikandlenlhdkaa.Pure
