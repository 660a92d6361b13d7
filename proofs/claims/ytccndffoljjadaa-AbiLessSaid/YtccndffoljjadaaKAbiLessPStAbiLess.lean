/- The pure statement of the law AbiLess. No condition. -/
import Derived.Test.YtccndffoljjadaaKAbiLessAl2
import Derived.Test.YtccndffoljjadaaKAbiLessPOk
namespace Go.Proofs.Ytccndffoljjadaa.P
open Go.RowKit Go.Proofs.YtccndffoljjadaaW.PrintWords Go.Proofs.YtccndffoljjadaaW.PrintLast Go.Proofs.YtccndffoljjadaaW.PrintMore Go.Proofs.YtccndffoljjadaaW.Open
set_option linter.unusedVariables false
set_option linter.unusedSimpArgs false
def curtilagelaw19_AbiLess.Pure : Prop := ∀ (y0 : Int) (y1 : Int) (y2 : Int) (y3 : List ByteArray) (y4 : List ByteArray) (y5 : List (S30)), (Lit.int .i64 y0).wf = true → (Lit.int .u64 y1).wf = true → (Lit.int .i64 y2).wf = true → (y3.length ≤ 9223372036854775807 ∧ y3.length * 16 ≤ 140737488351232 ∧ ∀ x ∈ y3, x.size ≤ 140737488351232) → (y4.length ≤ 9223372036854775807 ∧ y4.length * 16 ≤ 140737488351232 ∧ ∀ x ∈ y4, x.size ≤ 140737488351232) → (y5.length ≤ 9223372036854775807 ∧ y5.length * 48 ≤ 140737488351232 ∧ ∀ x ∈ y5, ok30 x) → (0 ≤ y1 ∧ y1 ≤ 18446744073709551615) ∧ ∃ k, LessHyp k y0 y1 y2 y3 y4 y5
end Go.Proofs.Ytccndffoljjadaa.P
