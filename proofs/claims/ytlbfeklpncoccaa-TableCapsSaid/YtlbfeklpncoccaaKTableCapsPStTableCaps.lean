/- The pure statement of the law TableCaps. No condition. -/
import Derived.Test.YtlbfeklpncoccaaKTableCapsPx20
import Derived.Test.YtlbfeklpncoccaaKTableCapsPOk
namespace Go.Proofs.Ytlbfeklpncoccaa.P
open Go.RowKit Go.Proofs.YtlbfeklpncoccaaW.PrintWords Go.Proofs.YtlbfeklpncoccaaW.PrintLast Go.Proofs.YtlbfeklpncoccaaW.PrintMore Go.Proofs.YtlbfeklpncoccaaW.Open
set_option linter.unusedVariables false
set_option linter.unusedSimpArgs false
def curtilagelaw18_TableCaps.Pure : Prop := ∀ (y0 : S28) (y1 : Int) (y2 : Int) (y3 : Int), ok28 y0 → (Lit.int .u64 y1).wf = true → (Lit.int .i64 y2).wf = true → (Lit.int .i64 y3).wf = true → ∃ k, curtilagelaw18_TableCaps.f k y0.f0 y0.f1 y0.f2 y0.f3 y0.f4 y0.f5 y0.f6 y1 y2 y3 = some true
end Go.Proofs.Ytlbfeklpncoccaa.P
