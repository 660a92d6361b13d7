/- The pure statement of the law HashMakes. No condition. -/
import Derived.Test.YtcoknhomlbbimaaPx9
import Derived.Test.YtcoknhomlbbimaaPOk
namespace Go.Proofs.Ytcoknhomlbbimaa.P
open Go.RowKit Go.Proofs.YtcoknhomlbbimaaW.PrintWords Go.Proofs.YtcoknhomlbbimaaW.PrintLast Go.Proofs.YtcoknhomlbbimaaW.PrintMore Go.Proofs.YtcoknhomlbbimaaW.Open
set_option linter.unusedVariables false
set_option linter.unusedSimpArgs false
def curtilagelaw12_HashMakes.Pure : Prop := ∀ (y0 : List (S24)) (y1 : Int), (y0.length ≤ 9223372036854775807 ∧ y0.length * 80 ≤ 140737488351232 ∧ ∀ x ∈ y0, ok24 x) → (Lit.int .i64 y1).wf = true → ∃ k, curtilagelaw12_HashMakes.f k y0 y1 = some true
end Go.Proofs.Ytcoknhomlbbimaa.P
