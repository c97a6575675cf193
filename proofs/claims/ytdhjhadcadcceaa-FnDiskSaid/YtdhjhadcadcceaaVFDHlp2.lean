import Derived.Test.YtdhjhadcadcceaaVFDHlp
/- Loops over lists of anything: sizes, comparing. -/
namespace Go.Proofs.Ytdhjhadcadcceaa.Hlp
open Go.RowKit Go.Proofs.YtdhjhadcadcceaaW.PrintWords Go.Proofs.YtdhjhadcadcceaaW.PrintMore

end Go.Proofs.Ytdhjhadcadcceaa.Hlp
