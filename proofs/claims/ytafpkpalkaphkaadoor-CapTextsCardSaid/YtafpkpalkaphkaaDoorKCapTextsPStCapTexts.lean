/- The pure statement of the law CapTexts. No condition. -/
import Derived.Test.YtafpkpalkaphkaaDoorKCapTextsPx10
import Derived.Test.YtafpkpalkaphkaaDoorKCapTextsPOk
namespace Go.Proofs.YtafpkpalkaphkaaDoor.P
open Go.RowKit Go.Proofs.YtafpkpalkaphkaaDoorW.PrintWords Go.Proofs.YtafpkpalkaphkaaDoorW.PrintLast Go.Proofs.YtafpkpalkaphkaaDoorW.PrintMore Go.Proofs.YtafpkpalkaphkaaDoorW.Open
set_option linter.unusedVariables false
set_option linter.unusedSimpArgs false
def curtilagelaw02_CapTexts.Pure : Prop := ∀ (y0 : S24) (y1 : S24), ok24 y0 → ok24 y1 → ∃ k, curtilagelaw02_CapTexts.f k y0.f0 y0.f1 y0.f2 y0.f3 y0.f4 y0.f5 y1.f0 y1.f1 y1.f2 y1.f3 y1.f4 y1.f5 = some true
end Go.Proofs.YtafpkpalkaphkaaDoor.P
