/- The pure statement of the law PlanWhole. No condition. -/
import Derived.Test.YtoakeildgpeffaaKPlanWholePx15
import Derived.Test.YtoakeildgpeffaaKPlanWholePOk
namespace Go.Proofs.Ytoakeildgpeffaa.P
open Go.RowKit Go.Proofs.YtoakeildgpeffaaW.PrintWords Go.Proofs.YtoakeildgpeffaaW.PrintLast Go.Proofs.YtoakeildgpeffaaW.PrintMore Go.Proofs.YtoakeildgpeffaaW.Open
set_option linter.unusedVariables false
set_option linter.unusedSimpArgs false
def curtilagelaw15_PlanWhole.Pure : Prop := ∀ (y0 : List (S39)) (y1 : List Int) (y2 : List Int), (y0.length ≤ 9223372036854775807 ∧ y0.length * 160 ≤ 140737488351232 ∧ ∀ x ∈ y0, ok39 x) → (y1.length ≤ 9223372036854775807 ∧ y1.length * 8 ≤ 140737488351232 ∧ ∀ x ∈ y1, (Lit.int .i64 x).wf = true) → (y2.length ≤ 9223372036854775807 ∧ y2.length * 8 ≤ 140737488351232 ∧ ∀ x ∈ y2, (Lit.int .i64 x).wf = true) → ∃ k, curtilagelaw15_PlanWhole.f k y0 y1 y2 = some true
end Go.Proofs.Ytoakeildgpeffaa.P
