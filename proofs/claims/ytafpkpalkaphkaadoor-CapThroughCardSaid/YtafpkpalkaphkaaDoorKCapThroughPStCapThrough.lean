/- The pure statement of the law CapThrough. No condition. -/
import Derived.Test.YtafpkpalkaphkaaDoorKCapThroughPx16
import Derived.Test.YtafpkpalkaphkaaDoorKCapThroughPOk
namespace Go.Proofs.YtafpkpalkaphkaaDoor.P
open Go.RowKit Go.Proofs.YtafpkpalkaphkaaDoorW.PrintWords Go.Proofs.YtafpkpalkaphkaaDoorW.PrintLast Go.Proofs.YtafpkpalkaphkaaDoorW.PrintMore Go.Proofs.YtafpkpalkaphkaaDoorW.Open
set_option linter.unusedVariables false
set_option linter.unusedSimpArgs false
def curtilagelaw02_CapThrough.Pure : Prop := ∀ (y0 : S24) (y1 : S24) (y2 : S24) (y3 : Int) (y4 : Int), ok24 y0 → ok24 y1 → ok24 y2 → (Lit.int .u64 y3).wf = true → (Lit.int .i64 y4).wf = true → ∃ k, curtilagelaw02_CapThrough.f k y0.f0 y0.f1 y0.f2 y0.f3 y0.f4 y0.f5 y1.f0 y1.f1 y1.f2 y1.f3 y1.f4 y1.f5 y2.f0 y2.f1 y2.f2 y2.f3 y2.f4 y2.f5 y3 y4 = some true
end Go.Proofs.YtafpkpalkaphkaaDoor.P
