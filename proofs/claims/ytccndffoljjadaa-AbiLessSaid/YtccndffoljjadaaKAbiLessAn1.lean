/- What Need computes, without wraps. No condition. -/
import Derived.Test.YtccndffoljjadaaKAbiLessAb4
namespace Go.Proofs.Ytccndffoljjadaa.P
open Go.RowKit Go.Proofs.YtccndffoljjadaaW.PrintWords Go.Proofs.YtccndffoljjadaaW.PrintLast
set_option linter.unusedVariables false
set_option linter.unusedSimpArgs false
def sumI : List ByteArray → Int
  | [] => 0
  | s :: r => (s.size : Int) + 1 + sumI r
theorem sumI_app (a b : List ByteArray) : sumI (a ++ b) = sumI a + sumI b := by
  induction a with
  | nil => simp [sumI]
  | cons s r ih => simp only [List.cons_append, sumI, ih]; omega
theorem sumI_bound {B : Int} : ∀ {l : List ByteArray}, (∀ s ∈ l, (s.size : Int) ≤ B) → 0 ≤ sumI l ∧ sumI l ≤ l.length * (B + 1)
  | [], _ => by simp [sumI]
  | s :: r, h => by
    have ih := sumI_bound (l := r) (fun x hx => h x (List.mem_cons_of_mem _ hx))
    have hs := h s List.mem_cons_self
    have e : ((s :: r).length : Int) * (B + 1) = (r.length : Int) * (B + 1) + (B + 1) := by simp [Int.add_mul]
    rw [e]
    simp only [sumI]
    omega
theorem foldl_addW : ∀ (l : List ByteArray) (n : Int), 0 ≤ n → n + sumI l ≤ 4611686018427387904 → l.foldl addW n = n + sumI l
  | [], n, _, _ => by simp [sumI]
  | s :: r, n, h0, h1 => by
    have hr : 0 ≤ sumI r := by
      clear h1
      induction r with
      | nil => simp [sumI]
      | cons a b ih => simp only [sumI]; omega
    simp only [sumI] at h1
    simp only [List.foldl_cons]
    have e : addW n s = n + ((s.size : Int) + 1) := by unfold addW wrap64; omega
    rw [e, foldl_addW r _ (by omega) (by omega)]
    simp only [sumI]
    omega
theorem sumW_is {l : List ByteArray} (h : ∀ s ∈ l, (s.size : Int) ≤ 140737488351232) (hl : l.length ≤ 1000) : sumW l = sumI l ∧ 0 ≤ sumI l ∧ sumI l ≤ 140737488351233000 := by
  obtain ⟨b0, b1⟩ := sumI_bound h
  have hm : (l.length : Int) * (140737488351232 + 1) ≤ 1000 * (140737488351232 + 1) := Int.mul_le_mul_of_nonneg_right (by omega) (by omega)
  refine ⟨?_, b0, by omega⟩
  unfold sumW
  rw [foldl_addW l 0 (by omega) (by omega)]
  omega
theorem upW_is {n : Int} (h0 : 0 ≤ n) (h1 : n ≤ 1152921504606846976) : upW n = (n + 31) / 32 * 32 := by
  unfold upW
  have e1 : wrap64 (n + 32) = n + 32 := by unfold wrap64; omega
  rw [e1]
  have e2 : wrap64 (n + 32 - 1) = n + 31 := by unfold wrap64; omega
  rw [e2, Int.tdiv_eq_ediv_of_nonneg (by omega)]
  have e3 : wrap64 ((n + 31) / 32) = (n + 31) / 32 := by unfold wrap64; omega
  rw [e3]
  unfold wrap64
  omega
theorem need_is {l0 l1 : List ByteArray} {l2 : List S30} (h0 : ∀ s ∈ l0, (s.size : Int) ≤ 140737488351232) (h1 : ∀ s ∈ l1, (s.size : Int) ≤ 140737488351232) (n0 : l0.length ≤ 400) (n1 : l1.length ≤ 400) (n2 : l2.length ≤ 400) :
    abi_Need.g l0 l1 l2 = (sumI l0 + sumI l1 + 31) / 32 * 32 + 32 * ((l0.length : Int) + l1.length + l2.length + 3) ∧ 0 ≤ sumI l0 + sumI l1 ∧ sumI l0 + sumI l1 ≤ 140737488351233000 := by
  obtain ⟨e, b0, b1⟩ := sumW_is (l := l0 ++ l1) (fun s hs => (List.mem_append.1 hs).elim (h0 s) (h1 s)) (by simp; omega)
  unfold abi_Need.g
  rw [e, upW_is b0 (by omega)]
  rw [sumI_app] at b0 b1 ⊢
  refine ⟨?_, b0, b1⟩
  generalize sumI l0 + sumI l1 = S at b0 b1 ⊢
  have e1 : wrap64 ((l0.length : Int) + l1.length) = (l0.length : Int) + l1.length := by unfold wrap64; omega
  rw [e1]
  have e2 : wrap64 ((l0.length : Int) + l1.length + l2.length) = (l0.length : Int) + l1.length + l2.length := by unfold wrap64; omega
  rw [e2]
  have e3 : wrap64 ((l0.length : Int) + l1.length + l2.length + 3) = (l0.length : Int) + l1.length + l2.length + 3 := by unfold wrap64; omega
  rw [e3]
  have e4 : wrap64 (32 * ((l0.length : Int) + l1.length + l2.length + 3)) = 32 * ((l0.length : Int) + l1.length + l2.length + 3) := by unfold wrap64; omega
  rw [e4]
  unfold wrap64
  omega
end Go.Proofs.Ytccndffoljjadaa.P
