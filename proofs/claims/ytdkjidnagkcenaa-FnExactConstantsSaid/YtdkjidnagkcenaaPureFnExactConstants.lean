/- FnExactConstants: the constants of the program are those that the reference names. -/
import Derived.Test.YtdkjidnagkcenaaPFnExactConstantsx1
namespace Go.Proofs.Ytdkjidnagkcenaa.Pure
open Go.RowKit Go.Proofs.Ytdkjidnagkcenaa.PFnExactConstants
theorem FnExactConstants : laws_FnExactConstants.Pure := rfl
end Go.Proofs.Ytdkjidnagkcenaa.Pure
