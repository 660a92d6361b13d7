/- Words of the walks: lemmas about memory, cut down to what this proof uses. No condition. -/
import Derived.Test.YtccndffoljjadaaKAbiLessMc7
namespace Go.Proofs.Ytccndffoljjadaa.P
open Go.RowKit Go.Proofs.YtccndffoljjadaaW.PrintWords Go.Proofs.YtccndffoljjadaaW.PrintLast
open Go.ChangeMaps (setBlock)
set_option linter.unusedVariables false
set_option linter.unusedSimpArgs false
theorem size_alloc (w : World) (o : Obj) : (w.alloc o).heap.size = w.heap.size + 1 := by simp
set_option maxHeartbeats 4000000 in
set_option maxRecDepth 100000 in
theorem New_none (b : Int) (w : World) (h : b < 0 ∨ b > 256) : Calls Try.prog 9 #[.int .i64 b] w fun e w' => e = .returned (.tuple #[.pointer none, .int .i64 1]) ∧ w' = w := by
  by_cases c : b < 0
  · have c1 : decide (b < 0) = true := decide_eq_true c
    go_enter Try.func9, Try.ntmps9
    go_wp2
    go_ret2
    exact ⟨rfl, rfl⟩
  · have c1 : decide (b < 0) = false := decide_eq_false c
    have c2 : decide (256 < b) = true := decide_eq_true (by omega)
    go_enter Try.func9, Try.ntmps9
    go_wp2
    go_ret2
    exact ⟨rfl, rfl⟩
set_option maxHeartbeats 4000000 in
set_option maxRecDepth 100000 in
theorem New_some (b : Int) (w : World) (h0 : 0 ≤ b) (h1 : b ≤ 256) : Calls Try.prog 9 #[.int .i64 b] w fun e w' => ∃ g gm, e = .returned (.tuple #[.pointer (some ⟨g, 0, none⟩), .int .i64 0]) ∧ MemL w' g gm [] 0 ⟨b, []⟩ ∧ w.heap.size ≤ g ∧ w.heap.size ≤ gm ∧ Below w.heap.size w w' := by
  have c1 : decide (b < 0) = false := decide_eq_false (by omega)
  have c2 : decide (256 < b) = false := decide_eq_false (by omega)
  have hu := Try.underlying65
  have hmk := fun w => run_makeMap (P := Try.prog) 63 w
  go_enter Try.func9, Try.ntmps9
  go_wp2
  go_ret2
  have h2 := blk_new (w.alloc (.map #[] 0)) (.cells #[.map (some w.heap.size), .int .i64 b] 65 (0, 0))
  rw [size_alloc] at h2
  refine ⟨_, _, rfl, MemL.new (gm := w.heap.size) (blk_alloc (blk_new _ _) _) h2, by omega, Nat.le_refl _, below_alloc (below_alloc (Below.refl _ _) _) _⟩
def Mm.dels (m : Mm) (p : Int) : Nat → Mm
  | 0 => m
  | j + 1 => (m.dels p j).del (p + j)
def tagmem_Mem_Unmap.f (m : Mm) (p n : Int) : Mm × Int := if someB p n = false then (m, 1) else if alld m p n true = false then (m, 30) else (m.dels p n.toNat, 0)
end Go.Proofs.Ytccndffoljjadaa.P
