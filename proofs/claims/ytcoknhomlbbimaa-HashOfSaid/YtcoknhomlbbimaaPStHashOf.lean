/- The pure statement of the law HashOf. No condition. -/
import Derived.Test.YtcoknhomlbbimaaPx4
import Derived.Test.YtcoknhomlbbimaaPOk
namespace Go.Proofs.Ytcoknhomlbbimaa.P
open Go.RowKit Go.Proofs.YtcoknhomlbbimaaW.PrintWords Go.Proofs.YtcoknhomlbbimaaW.PrintLast Go.Proofs.YtcoknhomlbbimaaW.PrintMore Go.Proofs.YtcoknhomlbbimaaW.Open
set_option linter.unusedVariables false
set_option linter.unusedSimpArgs false
def curtilagelaw12_HashOf.Pure : Prop := ∀ (y0 : ByteArray) (y1 : S24), y0.size ≤ 140737488351232 → ok24 y1 → ∃ k, curtilagelaw12_HashOf.f k y0 y1.f0 y1.f1 y1.f2 y1.f3 y1.f4 y1.f5 y1.f6 y1.f7 = some true
end Go.Proofs.Ytcoknhomlbbimaa.P
