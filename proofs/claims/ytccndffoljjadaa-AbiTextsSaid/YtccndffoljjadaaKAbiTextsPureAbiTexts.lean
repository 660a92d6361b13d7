/- Texts of one proof, one behind the other. No condition. -/
import Derived.Test.YtccndffoljjadaaKAbiTextsAu0
import Derived.Test.YtccndffoljjadaaKAbiTextsPx0
import Derived.Test.YtccndffoljjadaaKAbiTextsOpen
import Derived.Test.YtccndffoljjadaaKAbiTextsAl2
import Derived.DataShut
namespace Go.Proofs.Ytccndffoljjadaa.P
open Go.RowKit Go.Proofs.YtccndffoljjadaaW.PrintWords Go.Proofs.YtccndffoljjadaaW.PrintLast Go.Proofs.YtccndffoljjadaaW.PrintMore Go.Proofs.YtccndffoljjadaaW.Open
set_option linter.unusedVariables false
set_option linter.unusedSimpArgs false
def curtilagelaw19_AbiTexts.Pure : Prop := ∀ (y0 : Int) (y1 : Int) (y2 : Int) (y3 : List ByteArray) (y4 : List ByteArray), (Lit.int .i64 y0).wf = true → (Lit.int .u64 y1).wf = true → (Lit.int .i64 y2).wf = true → (y3.length ≤ 9223372036854775807 ∧ y3.length * 16 ≤ 140737488351232 ∧ ∀ x ∈ y3, x.size ≤ 140737488351232) → (y4.length ≤ 9223372036854775807 ∧ y4.length * 16 ≤ 140737488351232 ∧ ∀ x ∈ y4, x.size ≤ 140737488351232) → (0 ≤ y1 ∧ y1 ≤ 18446744073709551615) ∧ TextsHyp y0 y1 y2 y3 y4
end Go.Proofs.Ytccndffoljjadaa.P

namespace Go.Proofs.Ytccndffoljjadaa.Pure
open Go.RowKit Go.Proofs.Ytccndffoljjadaa.P Go.Proofs.YtccndffoljjadaaW.PrintWords Go.Proofs.YtccndffoljjadaaW.PrintLast
theorem u64_range {n : Int} (h : (Lit.int .u64 n).wf = true) : 0 ≤ n ∧ n ≤ 18446744073709551615 := by
  have := (Lit.wf_int_iff .u64 n).1 h
  simpa [IntKind.min, IntKind.max, IntKind.signed, IntKind.bits] using this
end Go.Proofs.Ytccndffoljjadaa.Pure

namespace Go.Proofs.Ytccndffoljjadaa.Pure
open Go.RowKit Go.Proofs.Ytccndffoljjadaa.P Go.Proofs.YtccndffoljjadaaW.PrintWords Go.Proofs.YtccndffoljjadaaW.PrintLast
theorem AbiTexts : curtilagelaw19_AbiTexts.Pure := by
  intro y0 y1 y2 y3 y4 h0 h1 h2 h3 h4
  have u := u64_range h1
  refine ⟨u, fun h => ⟨build_texts u.1 h, ?_⟩⟩
  unfold buildF at h
  by_cases c1 : abi_right.f y3 y4 [] = false
  · rw [if_pos c1] at h; simp at h
  rw [Bool.not_eq_false] at c1
  exact right_small c1
end Go.Proofs.Ytccndffoljjadaa.Pure
