/- The pure statement of the law AbiNeeds. No condition. -/
import Derived.Test.YtccndffoljjadaaKAbiNeedsPStAbiNeeds
import Derived.Test.YtccndffoljjadaaKAbiNeedsAn1
namespace Go.Proofs.Ytccndffoljjadaa.Pure
open Go.RowKit Go.Proofs.Ytccndffoljjadaa.P Go.Proofs.YtccndffoljjadaaW.PrintWords Go.Proofs.YtccndffoljjadaaW.PrintLast
theorem AbiNeeds : curtilagelaw19_AbiNeeds.Pure := by
  intro y0 y1 y2 y3 h0 h1 h2 h3
  unfold curtilagelaw19_AbiNeeds.f
  by_cases p1 : 200 < (y3.size : Int)
  · rw [if_pos p1]
  rw [if_neg p1]
  by_cases p2 : 100 < (y0.length : Int)
  · rw [if_pos p2]
  rw [if_neg p2]
  by_cases p3 : 100 < (y1.length : Int)
  · rw [if_pos p3]
  rw [if_neg p3]
  by_cases p4 : 100 < (y2.length : Int)
  · rw [if_pos p4]
  rw [if_neg p4]
  refine if_pos ?_
  have g0 : ∀ s ∈ y0, (s.size : Int) ≤ 140737488351232 := fun s hs => by have := h0.2.2 s hs; omega
  have g1 : ∀ s ∈ y1, (s.size : Int) ≤ 140737488351232 := fun s hs => by have := h1.2.2 s hs; omega
  have g3 : ∀ l : List ByteArray, (∀ s ∈ l, (s.size : Int) ≤ 140737488351232) → ∀ s ∈ l ++ [y3], (s.size : Int) ≤ 140737488351232 := fun l hl s hs => by
    rcases List.mem_append.1 hs with h | h
    · exact hl s h
    · simp only [List.mem_singleton] at h; subst h; omega
  obtain ⟨eA, a0, a1⟩ := need_is (l2 := y2) g0 g1 (by omega) (by omega) (by omega)
  obtain ⟨eB, b0, b1⟩ := need_is (l2 := y2) (g3 y0 g0) g1 (by simp; omega) (by omega) (by omega)
  obtain ⟨eC, c0, c1⟩ := need_is (l2 := y2) g0 (g3 y1 g1) (by omega) (by simp; omega) (by omega)
  rw [sumI_app] at eB b0 b1
  rw [sumI_app] at eC c0 c1
  have s3 : sumI [y3] = (y3.size : Int) + 1 := by simp [sumI]
  rw [s3] at eB eC b0 b1 c0 c1
  simp only [List.length_append, List.length_singleton] at eB eC
  unfold NeedsOk
  rw [eA, eB, eC]
  have hz : (0 : Int) ≤ y3.size := by omega
  have q0 : ((y0.length + 1 : Nat) : Int) = (y0.length : Int) + 1 := by omega
  have q1 : ((y1.length + 1 : Nat) : Int) = (y1.length : Int) + 1 := by omega
  have u0 : (0 : Int) ≤ y0.length := by omega
  have u1 : (0 : Int) ≤ y1.length := by omega
  have u2 : (0 : Int) ≤ y2.length := by omega
  rw [q0, q1]
  clear h0 h1 h2 h3 g0 g1 g3 eA eB eC s3 q0 q1
  generalize (y3.size : Int) = z at *
  generalize (y0.length : Int) = n0 at *
  generalize (y1.length : Int) = n1 at *
  generalize (y2.length : Int) = n2 at *
  generalize sumI y0 = s0 at *
  generalize sumI y1 = s1 at *
  generalize hA : (s0 + s1 + 31) / 32 * 32 + 32 * (n0 + n1 + n2 + 3) = A
  have w1 : wrap64 (A + 32) = A + 32 := by unfold wrap64; omega
  have w2 : wrap64 (A + 32 + z) = A + 32 + z := by unfold wrap64; omega
  have w3 : wrap64 (A + 32 + z + 32) = A + 32 + z + 32 := by unfold wrap64; omega
  rw [w1, w2, w3]
  clear w1 w2 w3
  refine ⟨?_, ?_, ?_, ?_⟩
  · rw [Int.tmod_eq_emod_of_nonneg (by omega)]; omega
  · omega
  · omega
  · omega
end Go.Proofs.Ytccndffoljjadaa.Pure
