/- The pure statement of the law LookupMore. No condition. -/
import Derived.Test.YtdgmkmjmddjcfaaKLookupMorePx12
import Derived.Test.YtdgmkmjmddjcfaaKLookupMorePOk
namespace Go.Proofs.Ytdgmkmjmddjcfaa.P
open Go.RowKit Go.Proofs.YtdgmkmjmddjcfaaW.PrintWords Go.Proofs.YtdgmkmjmddjcfaaW.PrintLast Go.Proofs.YtdgmkmjmddjcfaaW.PrintMore Go.Proofs.YtdgmkmjmddjcfaaW.Open
set_option linter.unusedVariables false
set_option linter.unusedSimpArgs false
def curtilagelaw14_LookupMore.Pure : Prop := ∀ (y0 : List (S32)) (y1 : List Int) (y2 : Int) (y3 : ByteArray) (y4 : ByteArray), (y0.length ≤ 9223372036854775807 ∧ y0.length * 160 ≤ 140737488351232 ∧ ∀ x ∈ y0, ok32 x) → (y1.length ≤ 9223372036854775807 ∧ y1.length * 8 ≤ 140737488351232 ∧ ∀ x ∈ y1, (Lit.int .i64 x).wf = true) → (Lit.int .i64 y2).wf = true → y3.size ≤ 140737488351232 → y4.size ≤ 140737488351232 → ∃ k, curtilagelaw14_LookupMore.f k y0 y1 y2 y3 y4 = some true
end Go.Proofs.Ytdgmkmjmddjcfaa.P
