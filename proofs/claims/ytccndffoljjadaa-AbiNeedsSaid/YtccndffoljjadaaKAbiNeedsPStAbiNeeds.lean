/- The pure statement of the law AbiNeeds. No condition. -/
import Derived.Test.YtccndffoljjadaaKAbiNeedsAn0
import Derived.Test.YtccndffoljjadaaKAbiNeedsPOk
namespace Go.Proofs.Ytccndffoljjadaa.P
open Go.RowKit Go.Proofs.YtccndffoljjadaaW.PrintWords Go.Proofs.YtccndffoljjadaaW.PrintLast Go.Proofs.YtccndffoljjadaaW.PrintMore Go.Proofs.YtccndffoljjadaaW.Open
set_option linter.unusedVariables false
set_option linter.unusedSimpArgs false
def curtilagelaw19_AbiNeeds.Pure : Prop := ∀ (y0 : List ByteArray) (y1 : List ByteArray) (y2 : List (S30)) (y3 : ByteArray), (y0.length ≤ 9223372036854775807 ∧ y0.length * 16 ≤ 140737488351232 ∧ ∀ x ∈ y0, x.size ≤ 140737488351232) → (y1.length ≤ 9223372036854775807 ∧ y1.length * 16 ≤ 140737488351232 ∧ ∀ x ∈ y1, x.size ≤ 140737488351232) → (y2.length ≤ 9223372036854775807 ∧ y2.length * 48 ≤ 140737488351232 ∧ ∀ x ∈ y2, ok30 x) → y3.size ≤ 140737488351232 → curtilagelaw19_AbiNeeds.f y0 y1 y2 y3 = some true
end Go.Proofs.Ytccndffoljjadaa.P
