/- The pure statement of the law GraphMore. No condition. -/
import Derived.Test.YtndmfjdoekdleaaKGraphMorePx7
import Derived.Test.YtndmfjdoekdleaaKGraphMorePOk
namespace Go.Proofs.Ytndmfjdoekdleaa.P
open Go.RowKit Go.Proofs.YtndmfjdoekdleaaW.PrintWords Go.Proofs.YtndmfjdoekdleaaW.PrintLast Go.Proofs.YtndmfjdoekdleaaW.PrintMore Go.Proofs.YtndmfjdoekdleaaW.Open
set_option linter.unusedVariables false
set_option linter.unusedSimpArgs false
def curtilagelaw13_GraphMore.Pure : Prop := ∀ (y0 : List (S29)) (y1 : ByteArray) (y2 : S29), (y0.length ≤ 9223372036854775807 ∧ y0.length * 160 ≤ 140737488351232 ∧ ∀ x ∈ y0, ok29 x) → y1.size ≤ 140737488351232 → ok29 y2 → ∃ k, curtilagelaw13_GraphMore.f k y0 y1 y2.f0 y2.f1 y2.f2 y2.f3 y2.f4 y2.f5 y2.f6 = some true
end Go.Proofs.Ytndmfjdoekdleaa.P
