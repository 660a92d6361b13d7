/- The pure statement of the law DlCounts. No condition. -/
import Derived.Test.YtociaidhgefpiaaKDlCountsPx17
import Derived.Test.YtociaidhgefpiaaKDlCountsPc17
import Derived.Test.YtociaidhgefpiaaKDlCountsPOk
namespace Go.Proofs.Ytociaidhgefpiaa.P
open Go.RowKit Go.Proofs.YtociaidhgefpiaaW.PrintWords Go.Proofs.YtociaidhgefpiaaW.PrintLast Go.Proofs.YtociaidhgefpiaaW.PrintMore Go.Proofs.YtociaidhgefpiaaW.Open
set_option linter.unusedVariables false
set_option linter.unusedSimpArgs false
def curtilagelaw21_DlCounts.Pure : Prop := ∀ (y0 : List (S38)) (y1 : ByteArray) (y2 : ByteArray) (y3 : Int), (y0.length ≤ 9223372036854775807 ∧ y0.length * 160 ≤ 140737488351232 ∧ ∀ x ∈ y0, ok38 x) → y1.size ≤ 140737488351232 → y2.size ≤ 140737488351232 → (Lit.int .i64 y3).wf = true → ∃ k, curtilagelaw21_DlCounts.f k y0 y1 y2 y3 = some true
end Go.Proofs.Ytociaidhgefpiaa.P
