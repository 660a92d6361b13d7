/- The pure statement of the law GraphBegins. No condition. -/
import Derived.Test.YtndmfjdoekdleaaKGraphBeginsPx7
import Derived.Test.YtndmfjdoekdleaaKGraphBeginsPOk
namespace Go.Proofs.Ytndmfjdoekdleaa.P
open Go.RowKit Go.Proofs.YtndmfjdoekdleaaW.PrintWords Go.Proofs.YtndmfjdoekdleaaW.PrintLast Go.Proofs.YtndmfjdoekdleaaW.PrintMore Go.Proofs.YtndmfjdoekdleaaW.Open
set_option linter.unusedVariables false
set_option linter.unusedSimpArgs false
def curtilagelaw13_GraphBegins.Pure : Prop := ∀ (y0 : List (S29)) (y1 : List Int), (y0.length ≤ 9223372036854775807 ∧ y0.length * 160 ≤ 140737488351232 ∧ ∀ x ∈ y0, ok29 x) → (y1.length ≤ 9223372036854775807 ∧ y1.length * 8 ≤ 140737488351232 ∧ ∀ x ∈ y1, (Lit.int .i64 x).wf = true) → ∃ k, curtilagelaw13_GraphBegins.f k y0 y1 = some true
end Go.Proofs.Ytndmfjdoekdleaa.P
