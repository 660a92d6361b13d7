/- The pure statement of the law LookupShown. No condition. -/
import Derived.Test.YtdgmkmjmddjcfaaKLookupShownPx13
import Derived.Test.YtdgmkmjmddjcfaaKLookupShownPOk
namespace Go.Proofs.Ytdgmkmjmddjcfaa.P
open Go.RowKit Go.Proofs.YtdgmkmjmddjcfaaW.PrintWords Go.Proofs.YtdgmkmjmddjcfaaW.PrintLast Go.Proofs.YtdgmkmjmddjcfaaW.PrintMore Go.Proofs.YtdgmkmjmddjcfaaW.Open
set_option linter.unusedVariables false
set_option linter.unusedSimpArgs false
def curtilagelaw14_LookupShown.Pure : Prop := ∀ (y0 : List (S32)) (y1 : List Int) (y2 : Int) (y3 : Int), (y0.length ≤ 9223372036854775807 ∧ y0.length * 160 ≤ 140737488351232 ∧ ∀ x ∈ y0, ok32 x) → (y1.length ≤ 9223372036854775807 ∧ y1.length * 8 ≤ 140737488351232 ∧ ∀ x ∈ y1, (Lit.int .i64 x).wf = true) → (Lit.int .i64 y2).wf = true → (Lit.int .i64 y3).wf = true → ∃ k, curtilagelaw14_LookupShown.f k y0 y1 y2 y3 = some true
end Go.Proofs.Ytdgmkmjmddjcfaa.P
