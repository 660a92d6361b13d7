/- The pure statement of the law AbiRoom. No condition. -/
import Derived.Test.YtccndffoljjadaaKAbiRoomAr0
import Derived.Test.YtccndffoljjadaaKAbiRoomPx0
import Derived.Test.YtccndffoljjadaaKAbiRoomOpen
namespace Go.Proofs.Ytccndffoljjadaa.P
open Go.RowKit Go.Proofs.YtccndffoljjadaaW.PrintWords Go.Proofs.YtccndffoljjadaaW.PrintLast Go.Proofs.YtccndffoljjadaaW.PrintMore Go.Proofs.YtccndffoljjadaaW.Open
set_option linter.unusedVariables false
set_option linter.unusedSimpArgs false
def curtilagelaw19_AbiRoom.Pure : Prop := ∀ (y0 : List ByteArray) (y1 : List ByteArray) (y2 : Int), (y0.length ≤ 9223372036854775807 ∧ y0.length * 16 ≤ 140737488351232 ∧ ∀ x ∈ y0, x.size ≤ 140737488351232) → (y1.length ≤ 9223372036854775807 ∧ y1.length * 16 ≤ 140737488351232 ∧ ∀ x ∈ y1, x.size ≤ 140737488351232) → (Lit.int .i64 y2).wf = true → ∃ k, curtilagelaw19_AbiRoom.f k y0 y1 y2 = some true
end Go.Proofs.Ytccndffoljjadaa.P
