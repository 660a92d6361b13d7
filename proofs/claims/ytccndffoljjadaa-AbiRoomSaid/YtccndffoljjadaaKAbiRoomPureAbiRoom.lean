/- The pure statement of the law AbiRoom. No condition. -/
import Derived.Test.YtccndffoljjadaaKAbiRoomPStAbiRoom
import Derived.Test.YtccndffoljjadaaKAbiRoomAr1
namespace Go.Proofs.Ytccndffoljjadaa.Pure
open Go.RowKit Go.Proofs.Ytccndffoljjadaa.P Go.Proofs.YtccndffoljjadaaW.PrintWords Go.Proofs.YtccndffoljjadaaW.PrintLast
theorem sum_good {l : List ByteArray} (h : l.length ≤ 8 ∧ ∀ s ∈ l, goodS s) : 0 ≤ sumI l ∧ sumI l ≤ 1608 := by
  obtain ⟨b0, b1⟩ := sumI_bound (B := 200) (l := l) (fun s hs => by have := (h.2 s hs).1; omega)
  have := h.1
  exact ⟨b0, by omega⟩
theorem map_empty {n : Int} (h0 : 1 ≤ n) (h1 : n ≤ 200) : (tagmem_Mem_Map.f ⟨200, []⟩ 9 n).2 = 0 := by
  unfold tagmem_Mem_Map.f
  have e1 : someB 9 n = true := decide_eq_true (by omega)
  have e2 : alld ⟨200, []⟩ 9 n false = true := by
    unfold alld
    rw [List.all_eq_true]
    intro i _
    simp [Mm.page]
  have e3 : wrap64 ((([] : List Pg).length : Int) + n) = n := by unfold wrap64; simp; omega
  rw [e1, e2]
  simp only [e3]
  rw [if_neg (by simp), if_neg (by simp), if_neg (by omega)]
theorem AbiRoom : curtilagelaw19_AbiRoom.Pure := by
  intro y0 y1 y2 h0 h1 h2
  obtain ⟨k, r, e, hr⟩ := Right_tot y0 y1 (by have := h0.2.1; omega) (by have := h1.2.1; omega) (fun s hs => by have := h0.2.2 s hs; omega) (fun s hs => by have := h1.2.2 s hs; omega)
  refine ⟨k, ?_⟩
  unfold curtilagelaw19_AbiRoom.f
  rw [e, Option.bind_some]
  cases r with
  | false => rfl
  | true =>
    rw [if_neg (by decide)]
    obtain ⟨g0, g1⟩ := hr.1 rfl
    by_cases p1 : y2 < 0
    · rw [if_pos p1]
    rw [if_neg p1]
    by_cases p2 : 50 < y2
    · rw [if_pos p2]
    rw [if_neg p2]
    have hR := right_of_good g0 g1
    obtain ⟨a0, a1⟩ := sum_good g0
    obtain ⟨b0, b1⟩ := sum_good g1
    obtain ⟨eA, _, _⟩ := need_is (l0 := y0) (l1 := y1) (l2 := []) (fun s hs => by have := (g0.2 s hs).1; omega) (fun s hs => by have := (g1.2 s hs).1; omega) (by have := g0.1; omega) (by have := g1.1; omega) (by simp)
    have n0 := g0.1
    have n1 := g1.1
    simp only [List.length_nil] at eA
    generalize hN : abi_Need.g y0 y1 [] = N at eA
    have N0 : 96 ≤ N := by omega
    have N1 : N ≤ 4000 := by omega
    clear eA
    obtain ⟨pg, hpg⟩ : ∃ x, x = Int.tdiv (N + 64 + 255) 256 := ⟨_, rfl⟩
    rw [← hpg]
    rw [Int.tdiv_eq_ediv_of_nonneg (by omega)] at hpg
    unfold roomF
    rw [if_pos ⟨n0, n1, by omega, by omega⟩]
    by_cases p3 : 200 < pg + y2
    · rw [if_pos p3]
    rw [if_neg p3]
    refine if_pos ⟨?_, ?_⟩
    · unfold buildF
      rw [hR, if_neg (by decide), hN, if_neg (by omega), if_pos (map_empty (by omega) (by omega))]
      rfl
    · unfold buildF
      rw [hR, if_neg (by decide), hN, if_pos (by omega)]
end Go.Proofs.Ytccndffoljjadaa.Pure
