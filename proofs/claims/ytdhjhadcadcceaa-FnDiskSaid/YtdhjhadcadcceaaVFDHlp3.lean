import Derived.Test.YtdhjhadcadcceaaVFDHlp
/- Loops that mark elements of different widths (an element with a row inside takes as many numbers as it has). -/
namespace Go.Proofs.Ytdhjhadcadcceaa.Hlp
open Go.RowKit Go.Proofs.YtdhjhadcadcceaaW.PrintWords Go.Proofs.YtdhjhadcadcceaaW.PrintMore

def tot {β : Type} (w : β → Nat) : List β → Nat
  | [] => 0
  | b :: r => w b + tot w r
def marksW {β : Type} (mk : β → Int → β) (w : β → Nat) (s : Int) : List β → List β
  | [] => []
  | b :: r => mk b s :: marksW mk w (s + w b) r
end Go.Proofs.Ytdhjhadcadcceaa.Hlp
