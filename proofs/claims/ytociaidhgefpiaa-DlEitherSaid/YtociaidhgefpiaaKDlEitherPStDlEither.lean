/- The pure statement of the law DlEither. No condition. -/
import Derived.Test.YtociaidhgefpiaaKDlEitherPx18
import Derived.Test.YtociaidhgefpiaaKDlEitherPOk
namespace Go.Proofs.Ytociaidhgefpiaa.P
open Go.RowKit Go.Proofs.YtociaidhgefpiaaW.PrintWords Go.Proofs.YtociaidhgefpiaaW.PrintLast Go.Proofs.YtociaidhgefpiaaW.PrintMore Go.Proofs.YtociaidhgefpiaaW.Open
set_option linter.unusedVariables false
set_option linter.unusedSimpArgs false
def curtilagelaw21_DlEither.Pure : Prop := ∀ (y0 : List (S38)) (y1 : ByteArray) (y2 : List (S58)) (y3 : ByteArray) (y4 : ByteArray), (y0.length ≤ 9223372036854775807 ∧ y0.length * 160 ≤ 140737488351232 ∧ ∀ x ∈ y0, ok38 x) → y1.size ≤ 140737488351232 → (y2.length ≤ 9223372036854775807 ∧ y2.length * 24 ≤ 140737488351232 ∧ ∀ x ∈ y2, ok58 x) → y3.size ≤ 140737488351232 → y4.size ≤ 140737488351232 → ∃ k, curtilagelaw21_DlEither.f k y0 y1 y2 y3 y4 = some true
end Go.Proofs.Ytociaidhgefpiaa.P
