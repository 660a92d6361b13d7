/- The pure statement of the law GraphBehind. No condition. -/
import Derived.Test.YtndmfjdoekdleaaKGraphBehindPx9
import Derived.Test.YtndmfjdoekdleaaKGraphBehindPOk
namespace Go.Proofs.Ytndmfjdoekdleaa.P
open Go.RowKit Go.Proofs.YtndmfjdoekdleaaW.PrintWords Go.Proofs.YtndmfjdoekdleaaW.PrintLast Go.Proofs.YtndmfjdoekdleaaW.PrintMore Go.Proofs.YtndmfjdoekdleaaW.Open
set_option linter.unusedVariables false
set_option linter.unusedSimpArgs false
def curtilagelaw13_GraphBehind.Pure : Prop := ∀ (y0 : List (S29)) (y1 : ByteArray), (y0.length ≤ 9223372036854775807 ∧ y0.length * 160 ≤ 140737488351232 ∧ ∀ x ∈ y0, ok29 x) → y1.size ≤ 140737488351232 → ∃ k, curtilagelaw13_GraphBehind.f k y0 y1 = some true
end Go.Proofs.Ytndmfjdoekdleaa.P
