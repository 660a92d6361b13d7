/- The pure statement of the law CapMakes. No condition. -/
import Derived.Test.YtafpkpalkaphkaaDoorKCapMakesPx12
import Derived.Test.YtafpkpalkaphkaaDoorKCapMakesPOk
namespace Go.Proofs.YtafpkpalkaphkaaDoor.P
open Go.RowKit Go.Proofs.YtafpkpalkaphkaaDoorW.PrintWords Go.Proofs.YtafpkpalkaphkaaDoorW.PrintLast Go.Proofs.YtafpkpalkaphkaaDoorW.PrintMore Go.Proofs.YtafpkpalkaphkaaDoorW.Open
set_option linter.unusedVariables false
set_option linter.unusedSimpArgs false
def curtilagelaw02_CapMakes.Pure : Prop := ∀ (y0 : S24) (y1 : Int) (y2 : Int), ok24 y0 → (Lit.int .u64 y1).wf = true → (Lit.int .i64 y2).wf = true → ∃ k, curtilagelaw02_CapMakes.f k y0.f0 y0.f1 y0.f2 y0.f3 y0.f4 y0.f5 y1 y2 = some true
end Go.Proofs.YtafpkpalkaphkaaDoor.P
