/- Words of the walks: lemmas about memory, cut down to what this proof uses. No condition. -/
import Derived.Test.YtccndffoljjadaaKAbiLessMc0
namespace Go.Proofs.Ytccndffoljjadaa.P
open Go.RowKit Go.Proofs.YtccndffoljjadaaW.PrintWords Go.Proofs.YtccndffoljjadaaW.PrintLast
set_option linter.unusedVariables false
set_option linter.unusedSimpArgs false
/-- What place answers. -/
theorem place_none {w : World} {g gm : Nat} {L : List Lp} {clock : Nat} {m : Mm} (h : MemL w g gm L clock m) {a : Int} (h0 : 0 ≤ a) (h1 : a ≤ 18446744073709551615) (hl : lookL (a / 256) L = none) :
    Calls Try.prog 48 #[.pointer (some ⟨g, 0, none⟩), .int .u64 a] w fun e w' => e = .returned (.tuple #[.pointer none, .int .i64 (a % 256)]) ∧ w' = w := by
  have A := place.calls h a h0 h1
  rw [hl] at A
  exact A
theorem place_some {w : World} {g gm : Nat} {L : List Lp} {clock : Nat} {m : Mm} (h : MemL w g gm L clock m) {a : Int} (h0 : 0 ≤ a) (h1 : a ≤ 18446744073709551615) {x : Lp} (hl : lookL (a / 256) L = some x) :
    Calls Try.prog 48 #[.pointer (some ⟨g, 0, none⟩), .int .u64 a] w fun e w' => e = .returned (.tuple #[.pointer (some ⟨x.blk, 0, none⟩), .int .i64 (a % 256)]) ∧ w' = w := by
  have A := place.calls h a h0 h1
  rw [hl] at A
  exact A
def size_ok (n : Int) : Prop := n = 1 ∨ n = 2 ∨ n = 4 ∨ n = 8
instance (n : Int) : Decidable (size_ok n) := by unfold size_ok; infer_instance
end Go.Proofs.Ytccndffoljjadaa.P
