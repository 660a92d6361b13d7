/- The pure statement of the law DlPlays. No condition. -/
import Derived.Test.YtociaidhgefpiaaKDlPlaysPx24
import Derived.Test.YtociaidhgefpiaaKDlPlaysPOk
namespace Go.Proofs.Ytociaidhgefpiaa.P
open Go.RowKit Go.Proofs.YtociaidhgefpiaaW.PrintWords Go.Proofs.YtociaidhgefpiaaW.PrintLast Go.Proofs.YtociaidhgefpiaaW.PrintMore Go.Proofs.YtociaidhgefpiaaW.Open
set_option linter.unusedVariables false
set_option linter.unusedSimpArgs false
def curtilagelaw21_DlPlays.Pure : Prop := ∀ (y0 : List (S38)) (y1 : ByteArray) (y2 : List (S58)), (y0.length ≤ 9223372036854775807 ∧ y0.length * 160 ≤ 140737488351232 ∧ ∀ x ∈ y0, ok38 x) → y1.size ≤ 140737488351232 → (y2.length ≤ 9223372036854775807 ∧ y2.length * 24 ≤ 140737488351232 ∧ ∀ x ∈ y2, ok58 x) → ∃ k, curtilagelaw21_DlPlays.f k y0 y1 y2 = some true
end Go.Proofs.Ytociaidhgefpiaa.P
