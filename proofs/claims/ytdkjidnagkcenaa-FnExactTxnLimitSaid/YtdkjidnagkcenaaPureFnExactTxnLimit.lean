/- FnExactTxnLimit: at every number the program's TxnLimit returns what the reference's returns. -/
import Derived.Test.YtdkjidnagkcenaaPFnExactTxnLimitx1
namespace Go.Proofs.Ytdkjidnagkcenaa.Pure
open Go.RowKit Go.Proofs.Ytdkjidnagkcenaa.PFnExactTxnLimit
theorem FnExactTxnLimit : laws_FnExactTxnLimit.Pure := by
  intro a _
  unfold laws_FnExactTxnLimit.f spec_TxnLimit.f impl_TxnLimit.f impl_in.f
  by_cases h0 : a < 16
  · have h1 : ¬ a ≥ 16 := by omega
    simp [h0, h1]
  · have h1 : a ≥ 16 := by omega
    by_cases h2 : a > 512
    · have h3 : ¬ a ≤ 512 := by omega
      simp [h0, h1, h2, h3]
    · have h3 : a ≤ 512 := by omega
      simp [h0, h1, h2, h3]
end Go.Proofs.Ytdkjidnagkcenaa.Pure
