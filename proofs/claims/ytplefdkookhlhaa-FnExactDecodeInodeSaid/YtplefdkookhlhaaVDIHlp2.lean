import Derived.Test.YtplefdkookhlhaaVDIHlp
/- Loops over lists of anything: sizes, comparing. -/
namespace Go.Proofs.Ytplefdkookhlhaa.Hlp
open Go.RowKit Go.Proofs.YtplefdkookhlhaaW.PrintWords Go.Proofs.YtplefdkookhlhaaW.PrintMore

end Go.Proofs.Ytplefdkookhlhaa.Hlp
