/- The pure statement of the law TableLess. No condition. -/
import Derived.Test.YtlbfeklpncoccaaKTableLessPx23
import Derived.Test.YtlbfeklpncoccaaKTableLessPOk
namespace Go.Proofs.Ytlbfeklpncoccaa.P
open Go.RowKit Go.Proofs.YtlbfeklpncoccaaW.PrintWords Go.Proofs.YtlbfeklpncoccaaW.PrintLast Go.Proofs.YtlbfeklpncoccaaW.PrintMore Go.Proofs.YtlbfeklpncoccaaW.Open
set_option linter.unusedVariables false
set_option linter.unusedSimpArgs false
def curtilagelaw18_TableLess.Pure : Prop := ∀ (y0 : List (S28)) (y1 : List Int) (y2 : List Int) (y3 : List (S44)), (y0.length ≤ 9223372036854775807 ∧ y0.length * 160 ≤ 140737488351232 ∧ ∀ x ∈ y0, ok28 x) → (y1.length ≤ 9223372036854775807 ∧ y1.length * 8 ≤ 140737488351232 ∧ ∀ x ∈ y1, (Lit.int .u64 x).wf = true) → (y2.length ≤ 9223372036854775807 ∧ y2.length * 8 ≤ 140737488351232 ∧ ∀ x ∈ y2, (Lit.int .i64 x).wf = true) → (y3.length ≤ 9223372036854775807 ∧ y3.length * 32 ≤ 140737488351232 ∧ ∀ x ∈ y3, ok44 x) → ∃ k, curtilagelaw18_TableLess.f k y0 y1 y2 y3 = some true
end Go.Proofs.Ytlbfeklpncoccaa.P
