/- The pure statement of the law SweepTouches. No condition. -/
import Derived.Test.YtchjhnflogojcaaPx2
import Derived.Test.YtchjhnflogojcaaPOk
namespace Go.Proofs.Ytchjhnflogojcaa.P
open Go.RowKit Go.Proofs.YtchjhnflogojcaaW.PrintWords Go.Proofs.YtchjhnflogojcaaW.PrintLast Go.Proofs.YtchjhnflogojcaaW.PrintMore Go.Proofs.YtchjhnflogojcaaW.Open
set_option linter.unusedVariables false
set_option linter.unusedSimpArgs false
def curtilagelaw22_SweepTouches.Pure : Prop := ∀ (y0 : S24) (y1 : Int) (y2 : Int) (y3 : Int), ok24 y0 → (Lit.int .u64 y1).wf = true → (Lit.int .u64 y2).wf = true → (Lit.int .i64 y3).wf = true → ∃ k, curtilagelaw22_SweepTouches.f k y0.f0 y0.f1 y0.f2 y0.f3 y0.f4 y0.f5 y1 y2 y3 = some true
end Go.Proofs.Ytchjhnflogojcaa.P
