/- The pure statement of the law HashMore. No condition. -/
import Derived.Test.YtcoknhomlbbimaaPx7
import Derived.Test.YtcoknhomlbbimaaPOk
namespace Go.Proofs.Ytcoknhomlbbimaa.P
open Go.RowKit Go.Proofs.YtcoknhomlbbimaaW.PrintWords Go.Proofs.YtcoknhomlbbimaaW.PrintLast Go.Proofs.YtcoknhomlbbimaaW.PrintMore Go.Proofs.YtcoknhomlbbimaaW.Open
set_option linter.unusedVariables false
set_option linter.unusedSimpArgs false
def curtilagelaw12_HashMore.Pure : Prop := ∀ (y0 : List (S24)) (y1 : List (S24)) (y2 : Int) (y3 : ByteArray) (y4 : ByteArray), (y0.length ≤ 9223372036854775807 ∧ y0.length * 80 ≤ 140737488351232 ∧ ∀ x ∈ y0, ok24 x) → (y1.length ≤ 9223372036854775807 ∧ y1.length * 80 ≤ 140737488351232 ∧ ∀ x ∈ y1, ok24 x) → (Lit.int .i64 y2).wf = true → y3.size ≤ 140737488351232 → y4.size ≤ 140737488351232 → ∃ k, curtilagelaw12_HashMore.f k y0 y1 y2 y3 y4 = some true
end Go.Proofs.Ytcoknhomlbbimaa.P
