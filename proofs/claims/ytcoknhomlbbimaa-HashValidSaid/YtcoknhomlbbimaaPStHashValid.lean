/- The pure statement of the law HashValid. No condition. -/
import Derived.Test.YtcoknhomlbbimaaPx10
import Derived.Test.YtcoknhomlbbimaaPOk
namespace Go.Proofs.Ytcoknhomlbbimaa.P
open Go.RowKit Go.Proofs.YtcoknhomlbbimaaW.PrintWords Go.Proofs.YtcoknhomlbbimaaW.PrintLast Go.Proofs.YtcoknhomlbbimaaW.PrintMore Go.Proofs.YtcoknhomlbbimaaW.Open
set_option linter.unusedVariables false
set_option linter.unusedSimpArgs false
def curtilagelaw12_HashValid.Pure : Prop := ∀ (y0 : List (S24)) (y1 : Int) (y2 : Int) (y3 : Int), (y0.length ≤ 9223372036854775807 ∧ y0.length * 80 ≤ 140737488351232 ∧ ∀ x ∈ y0, ok24 x) → (Lit.int .i64 y1).wf = true → (Lit.int .i64 y2).wf = true → (Lit.int .i64 y3).wf = true → ∃ k, curtilagelaw12_HashValid.f k y0 y1 y2 y3 = some true
end Go.Proofs.Ytcoknhomlbbimaa.P
