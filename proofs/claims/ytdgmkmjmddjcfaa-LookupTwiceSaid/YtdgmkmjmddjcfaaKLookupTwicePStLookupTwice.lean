/- The pure statement of the law LookupTwice. No condition. -/
import Derived.Test.YtdgmkmjmddjcfaaKLookupTwicePx16
import Derived.Test.YtdgmkmjmddjcfaaKLookupTwicePOk
namespace Go.Proofs.Ytdgmkmjmddjcfaa.P
open Go.RowKit Go.Proofs.YtdgmkmjmddjcfaaW.PrintWords Go.Proofs.YtdgmkmjmddjcfaaW.PrintLast Go.Proofs.YtdgmkmjmddjcfaaW.PrintMore Go.Proofs.YtdgmkmjmddjcfaaW.Open
set_option linter.unusedVariables false
set_option linter.unusedSimpArgs false
def curtilagelaw14_LookupTwice.Pure : Prop := ∀ (y0 : List (S32)) (y1 : List Int) (y2 : ByteArray), (y0.length ≤ 9223372036854775807 ∧ y0.length * 160 ≤ 140737488351232 ∧ ∀ x ∈ y0, ok32 x) → (y1.length ≤ 9223372036854775807 ∧ y1.length * 8 ≤ 140737488351232 ∧ ∀ x ∈ y1, (Lit.int .i64 x).wf = true) → y2.size ≤ 140737488351232 → ∃ k, curtilagelaw14_LookupTwice.f k y0 y1 y2 = some true
end Go.Proofs.Ytdgmkmjmddjcfaa.P
