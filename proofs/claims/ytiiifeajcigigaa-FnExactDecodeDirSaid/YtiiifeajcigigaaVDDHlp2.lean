import Derived.Test.YtiiifeajcigigaaVDDHlp
/- Loops over lists of anything: sizes, comparing. -/
namespace Go.Proofs.Ytiiifeajcigigaa.Hlp
open Go.RowKit Go.Proofs.YtiiifeajcigigaaW.PrintWords Go.Proofs.YtiiifeajcigigaaW.PrintMore

/-- A loop that compares a list with itself. -/
theorem eqG_ev {β : Type} {L : Nat → List β → List β → Int → Option Bool} (l : List β)
    (step : ∀ (i : Nat) (_ : i < l.length), Ev (fun k => L k l l ((i + 1 : Nat) : Int)) true → Ev (fun k => L k l l (i : Int)) true)
    (fin : Ev (fun k => L k l l (l.length : Int)) true) : Ev (fun k => L k l l 0) true :=
  down (P := fun i => Ev (fun k => L k l l (i : Int)) true) l.length fin step
end Go.Proofs.Ytiiifeajcigigaa.Hlp
