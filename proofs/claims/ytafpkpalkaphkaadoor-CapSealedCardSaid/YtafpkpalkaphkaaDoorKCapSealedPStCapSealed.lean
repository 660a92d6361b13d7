/- The pure statement of the law CapSealed. No condition. -/
import Derived.Test.YtafpkpalkaphkaaDoorKCapSealedPx11
import Derived.Test.YtafpkpalkaphkaaDoorKCapSealedPOk
namespace Go.Proofs.YtafpkpalkaphkaaDoor.P
open Go.RowKit Go.Proofs.YtafpkpalkaphkaaDoorW.PrintWords Go.Proofs.YtafpkpalkaphkaaDoorW.PrintLast Go.Proofs.YtafpkpalkaphkaaDoorW.PrintMore Go.Proofs.YtafpkpalkaphkaaDoorW.Open
set_option linter.unusedVariables false
set_option linter.unusedSimpArgs false
def curtilagelaw02_CapSealed.Pure : Prop := ∀ (y0 : S24) (y1 : S24) (y2 : Int) (y3 : Int), ok24 y0 → ok24 y1 → (Lit.int .u64 y2).wf = true → (Lit.int .i64 y3).wf = true → ∃ k, curtilagelaw02_CapSealed.f k y0.f0 y0.f1 y0.f2 y0.f3 y0.f4 y0.f5 y1.f0 y1.f1 y1.f2 y1.f3 y1.f4 y1.f5 y2 y3 = some true
end Go.Proofs.YtafpkpalkaphkaaDoor.P
