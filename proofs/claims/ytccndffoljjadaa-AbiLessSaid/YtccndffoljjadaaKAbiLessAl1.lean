/- The law AbiLess' helper: all of what a program begins with. No condition. -/
import Derived.Test.YtccndffoljjadaaKAbiLessAl0
import Derived.Test.YtccndffoljjadaaKAbiLessAb9
namespace Go.Proofs.Ytccndffoljjadaa.P
open Go.RowKit Go.Proofs.YtccndffoljjadaaW.PrintWords Go.Proofs.YtccndffoljjadaaW.PrintLast
set_option linter.unusedVariables false
set_option linter.unusedSimpArgs false
set_option maxHeartbeats 4000000 in
set_option maxRecDepth 100000 in
theorem start_calls (a b c d : S30) (w : World) : Calls Try.prog 16 #[.agg (cs24 a b c d)] w fun e w' => (∃ g : Nat, w.heap.size ≤ g ∧ e = .returned (.slice (some ⟨g, 0, none⟩) 4 4) ∧ w'.heap[g]? = some (.cells (cs24 a b c d) 30 (0, 0))) ∧ Below w.heap.size w w' := by
  have hu := Try.underlying32
  have hu2 := Try.underlying30
  unfold cs24
  go_enter Try.func16, Try.ntmps16
  go_wp2
  go_ret
  have h2 := blk_new (w.alloc (.cells (cs24 a b c d) 32)) (.cells (cs24 a b c d) 30)
  rw [show (w.alloc (.cells (cs24 a b c d) 32)).heap.size = w.heap.size + 1 by simp] at h2
  exact ⟨⟨w.heap.size + 1, by omega, rfl, h2⟩, below_alloc (below_alloc (Below.refl _ _) _) _⟩
end Go.Proofs.Ytccndffoljjadaa.P
