/- Texts of one proof, one behind the other. No condition. -/
import Derived.Test.YtccndffoljjadaaKAbiTextsAb5
import Derived.Test.YtccndffoljjadaaKAbiTextsAb9a
namespace Go.Proofs.Ytccndffoljjadaa.P
open Go.RowKit Go.Proofs.YtccndffoljjadaaW.PrintWords Go.Proofs.YtccndffoljjadaaW.PrintLast
set_option linter.unusedVariables false
set_option linter.unusedSimpArgs false
def sumI : List ByteArray → Int
  | [] => 0
  | s :: r => (s.size : Int) + 1 + sumI r
theorem sumI_app (a b : List ByteArray) : sumI (a ++ b) = sumI a + sumI b := by
  induction a with
  | nil => simp [sumI]
  | cons s r ih => simp only [List.cons_append, sumI, ih]; omega
theorem sumI_bound {B : Int} : ∀ {l : List ByteArray}, (∀ s ∈ l, (s.size : Int) ≤ B) → 0 ≤ sumI l ∧ sumI l ≤ l.length * (B + 1)
  | [], _ => by simp [sumI]
  | s :: r, h => by
    have ih := sumI_bound (l := r) (fun x hx => h x (List.mem_cons_of_mem _ hx))
    have hs := h s List.mem_cons_self
    have e : ((s :: r).length : Int) * (B + 1) = (r.length : Int) * (B + 1) + (B + 1) := by simp [Int.add_mul]
    rw [e]
    simp only [sumI]
    omega
theorem foldl_addW : ∀ (l : List ByteArray) (n : Int), 0 ≤ n → n + sumI l ≤ 4611686018427387904 → l.foldl addW n = n + sumI l
  | [], n, _, _ => by simp [sumI]
  | s :: r, n, h0, h1 => by
    have hr : 0 ≤ sumI r := by
      clear h1
      induction r with
      | nil => simp [sumI]
      | cons a b ih => simp only [sumI]; omega
    simp only [sumI] at h1
    simp only [List.foldl_cons]
    have e : addW n s = n + ((s.size : Int) + 1) := by unfold addW wrap64; omega
    rw [e, foldl_addW r _ (by omega) (by omega)]
    simp only [sumI]
    omega
theorem sumW_is {l : List ByteArray} (h : ∀ s ∈ l, (s.size : Int) ≤ 140737488351232) (hl : l.length ≤ 1000) : sumW l = sumI l ∧ 0 ≤ sumI l ∧ sumI l ≤ 140737488351233000 := by
  obtain ⟨b0, b1⟩ := sumI_bound h
  have hm : (l.length : Int) * (140737488351232 + 1) ≤ 1000 * (140737488351232 + 1) := Int.mul_le_mul_of_nonneg_right (by omega) (by omega)
  refine ⟨?_, b0, by omega⟩
  unfold sumW
  rw [foldl_addW l 0 (by omega) (by omega)]
  omega
theorem upW_is {n : Int} (h0 : 0 ≤ n) (h1 : n ≤ 1152921504606846976) : upW n = (n + 31) / 32 * 32 := by
  unfold upW
  have e1 : wrap64 (n + 32) = n + 32 := by unfold wrap64; omega
  rw [e1]
  have e2 : wrap64 (n + 32 - 1) = n + 31 := by unfold wrap64; omega
  rw [e2, Int.tdiv_eq_ediv_of_nonneg (by omega)]
  have e3 : wrap64 ((n + 31) / 32) = (n + 31) / 32 := by unfold wrap64; omega
  rw [e3]
  unfold wrap64
  omega
theorem need_is {l0 l1 : List ByteArray} {l2 : List S30} (h0 : ∀ s ∈ l0, (s.size : Int) ≤ 140737488351232) (h1 : ∀ s ∈ l1, (s.size : Int) ≤ 140737488351232) (n0 : l0.length ≤ 400) (n1 : l1.length ≤ 400) (n2 : l2.length ≤ 400) :
    abi_Need.g l0 l1 l2 = (sumI l0 + sumI l1 + 31) / 32 * 32 + 32 * ((l0.length : Int) + l1.length + l2.length + 3) ∧ 0 ≤ sumI l0 + sumI l1 ∧ sumI l0 + sumI l1 ≤ 140737488351233000 := by
  obtain ⟨e, b0, b1⟩ := sumW_is (l := l0 ++ l1) (fun s hs => (List.mem_append.1 hs).elim (h0 s) (h1 s)) (by simp; omega)
  unfold abi_Need.g
  rw [e, upW_is b0 (by omega)]
  rw [sumI_app] at b0 b1 ⊢
  refine ⟨?_, b0, b1⟩
  generalize sumI l0 + sumI l1 = S at b0 b1 ⊢
  have e1 : wrap64 ((l0.length : Int) + l1.length) = (l0.length : Int) + l1.length := by unfold wrap64; omega
  rw [e1]
  have e2 : wrap64 ((l0.length : Int) + l1.length + l2.length) = (l0.length : Int) + l1.length + l2.length := by unfold wrap64; omega
  rw [e2]
  have e3 : wrap64 ((l0.length : Int) + l1.length + l2.length + 3) = (l0.length : Int) + l1.length + l2.length + 3 := by unfold wrap64; omega
  rw [e3]
  have e4 : wrap64 (32 * ((l0.length : Int) + l1.length + l2.length + 3)) = 32 * ((l0.length : Int) + l1.length + l2.length + 3) := by unfold wrap64; omega
  rw [e4]
  unfold wrap64
  omega
end Go.Proofs.Ytccndffoljjadaa.P

namespace Go.Proofs.Ytccndffoljjadaa.P
open Go.RowKit Go.Proofs.YtccndffoljjadaaW.PrintWords Go.Proofs.YtccndffoljjadaaW.PrintLast
set_option linter.unusedVariables false
set_option linter.unusedSimpArgs false
theorem sumI_nonneg : ∀ l : List ByteArray, 0 ≤ sumI l
  | [] => by simp [sumI]
  | s :: r => by have := sumI_nonneg r; simp only [sumI]; omega
theorem texts_at : ∀ (l : List ByteArray) (m : Mm) (a : Int) (c : List S30), 0 ≤ a → a + sumI l ≤ 1000000000 → (l.foldl textStep (m, a, c)).2.1 = a + sumI l
  | [], m, a, c, _, _ => by simp [sumI]
  | s :: r, m, a, c, h0, h1 => by
    have hr := sumI_nonneg r
    simp only [sumI] at h1 ⊢
    have e : IntKind.u64.wrap (a + ((s.size : Int) + 1)) = a + ((s.size : Int) + 1) := by rw [IntKind.wrap_u64]; omega
    rw [List.foldl_cons]
    have e2 : textStep (m, a, c) s = ((tagmem_Mem_Put.f m a (bytesOf s ++ [0])).1, a + ((s.size : Int) + 1), c ++ [ofC a ((s.size : Int) + 1) 1]) := by unfold textStep; rw [e]
    rw [e2, texts_at r _ _ _ (by omega) (by omega)]
    omega
theorem caps_at : ∀ (l : List S30) (m : Mm) (a : Int), 0 ≤ a → a + 32 * l.length ≤ 1000000000 → (l.foldl capStep (m, a)).2 = a + 32 * l.length
  | [], m, a, _, _ => by simp
  | x :: r, m, a, h0, h1 => by
    simp only [List.length_cons] at h1 ⊢
    have e : IntKind.u64.wrap (a + 32) = a + 32 := by rw [IntKind.wrap_u64]; omega
    rw [List.foldl_cons]
    obtain ⟨m', hm⟩ : ∃ m', capStep (m, a) x = (m', a + 32) := ⟨_, by unfold capStep; rw [e]⟩
    rw [hm, caps_at r _ _ (by omega) (by omega)]
    omega
theorem list_at (m : Mm) (a : Int) (l : List S30) (h0 : 0 ≤ a) (h1 : a + 32 * (l.length + 1) ≤ 1000000000) : (listF m a l).2 = a + 32 * (l.length + 1) := by
  unfold listF capsF
  rw [caps_at _ m a h0 (by simp; omega)]
  simp
theorem list_cap (m : Mm) (a : Int) (l : List S30) (h0 : 0 ≤ a) (h1 : a + 32 * (l.length + 1) ≤ 16777216) : listC m a l = ⟨a, a + 32 * l.length, a, 9, -1, true⟩ := by
  unfold listC
  rw [list_at m a l h0 (by omega)]
  have e1 : IntKind.u64.wrap (a + 32 * ((l.length : Int) + 1) - a) = 32 * ((l.length : Int) + 1) := by rw [IntKind.wrap_u64]; omega
  rw [e1]
  have e2 : IntKind.u64.wrap (32 * ((l.length : Int) + 1) - 32) = 32 * (l.length : Int) := by rw [IntKind.wrap_u64]; omega
  rw [e2, of_is h0 (by omega) (by omega)]
  rfl
theorem move_is (b t a p x : Int) : moveC ⟨b, t, a, p, -1, true⟩ x = ⟨b, t, x, p, -1, true⟩ := rfl
/-- What Build gives, if it gives anything: the four capabilities, between the region's ends. -/
structure Laid (a0 fin : Int) (n0 n1 n2 : Nat) (S : Int) (b : Bd) : Prop where
  s1 : b.s1 = ⟨a0 + S, a0 + S + 32 * n0, a0 + S, 9, -1, true⟩
  s2 : b.s2 = ⟨a0 + S + 32 * (n0 + 1), a0 + S + 32 * (n0 + 1) + 32 * n1, a0 + S + 32 * (n0 + 1), 9, -1, true⟩
  s3 : b.s3 = ⟨a0 + S + 32 * (n0 + 1) + 32 * (n1 + 1), a0 + S + 32 * (n0 + 1) + 32 * (n1 + 1) + 32 * n2, a0 + S + 32 * (n0 + 1) + 32 * (n1 + 1), 9, -1, true⟩
  s0 : b.s0 = ⟨a0 + S + 32 * (n0 + 1) + 32 * (n1 + 1) + 32 * (n2 + 1), fin, fin, 27, -1, true⟩
theorem buildOk_is (m1 : Mm) (a0 fin : Int) (l0 l1 : List ByteArray) (l2 : List S30) (h0 : 0 ≤ a0) (h1 : fin ≤ 16777216) (h2 : a0 + (sumI l0 + sumI l1 + 31) / 32 * 32 + 32 * ((l0.length : Int) + l1.length + l2.length + 3) + 64 ≤ fin) :
    Laid a0 fin l0.length l1.length l2.length ((sumI l0 + sumI l1 + 31) / 32 * 32) (buildOk m1 a0 fin l0 l1 l2) := by
  have g0 := sumI_nonneg l0
  have g1 := sumI_nonneg l1
  have eA : (textsF m1 a0 l0).2.1 = a0 + sumI l0 := texts_at l0 m1 a0 [] h0 (by omega)
  have eB : (textsF (textsF m1 a0 l0).1 (textsF m1 a0 l0).2.1 l1).2.1 = a0 + sumI l0 + sumI l1 := by rw [eA]; exact texts_at l1 _ _ [] (by omega) (by omega)
  have nA : (textsF m1 a0 l0).2.2.length = l0.length := by have := textsF_len m1 a0 l0 []; simpa [textsF] using this
  have nB : (textsF (textsF m1 a0 l0).1 (textsF m1 a0 l0).2.1 l1).2.2.length = l1.length := by have := textsF_len (textsF m1 a0 l0).1 (textsF m1 a0 l0).2.1 l1 []; simpa [textsF] using this
  unfold buildOk
  dsimp only
  generalize textsF m1 a0 l0 = A at eA eB nA nB
  generalize textsF A.1 A.2.1 l1 = B at eB nB
  have e4 : IntKind.u64.wrap (a0 + IntKind.u64.wrap (upW (wrap64 (IntKind.u64.wrap (B.2.1 - a0))))) = a0 + (sumI l0 + sumI l1 + 31) / 32 * 32 := by
    rw [eB]
    have q1 : IntKind.u64.wrap (a0 + sumI l0 + sumI l1 - a0) = sumI l0 + sumI l1 := by rw [IntKind.wrap_u64]; omega
    have q2 : wrap64 (sumI l0 + sumI l1) = sumI l0 + sumI l1 := by unfold wrap64; omega
    rw [q1, q2, upW_is (by omega) (by omega)]
    have q3 : IntKind.u64.wrap ((sumI l0 + sumI l1 + 31) / 32 * 32) = (sumI l0 + sumI l1 + 31) / 32 * 32 := by rw [IntKind.wrap_u64]; omega
    rw [q3, IntKind.wrap_u64]
    omega
  rw [e4]
  have s0 : 0 ≤ (sumI l0 + sumI l1 + 31) / 32 * 32 := by omega
  clear e4 eA eB
  generalize (sumI l0 + sumI l1 + 31) / 32 * 32 = S at h2 s0 ⊢
  have c1 := list_at B.1 (a0 + S) A.2.2 (by omega) (by rw [nA]; omega)
  have k1 := list_cap B.1 (a0 + S) A.2.2 (by omega) (by rw [nA]; omega)
  rw [nA] at c1 k1
  generalize listC B.1 (a0 + S) A.2.2 = x1 at k1
  generalize listF B.1 (a0 + S) A.2.2 = C at c1
  obtain ⟨mC, aC⟩ := C
  simp only at c1
  subst c1
  have c2 := list_at mC (a0 + S + 32 * ((l0.length : Int) + 1)) B.2.2 (by omega) (by rw [nB]; omega)
  have k2 := list_cap mC (a0 + S + 32 * ((l0.length : Int) + 1)) B.2.2 (by omega) (by rw [nB]; omega)
  rw [nB] at c2 k2
  try simp only
  generalize listC mC (a0 + S + 32 * ((l0.length : Int) + 1)) B.2.2 = x2 at k2
  generalize listF mC (a0 + S + 32 * ((l0.length : Int) + 1)) B.2.2 = D at c2
  obtain ⟨mD, aD⟩ := D
  simp only at c2
  subst c2
  have c3 := list_at mD (a0 + S + 32 * ((l0.length : Int) + 1) + 32 * ((l1.length : Int) + 1)) l2 (by omega) (by omega)
  have k3 := list_cap mD (a0 + S + 32 * ((l0.length : Int) + 1) + 32 * ((l1.length : Int) + 1)) l2 (by omega) (by omega)
  try simp only
  generalize listC mD (a0 + S + 32 * ((l0.length : Int) + 1) + 32 * ((l1.length : Int) + 1)) l2 = x3 at k3
  generalize listF mD (a0 + S + 32 * ((l0.length : Int) + 1) + 32 * ((l1.length : Int) + 1)) l2 = E at c3
  obtain ⟨mE, aE⟩ := E
  simp only at c3
  subst c3
  refine ⟨k1, k2, k3, ?_⟩
  try simp only
  have q : IntKind.u64.wrap (fin - (a0 + S + 32 * ((l0.length : Int) + 1) + 32 * ((l1.length : Int) + 1) + 32 * ((l2.length : Int) + 1))) = fin - (a0 + S + 32 * ((l0.length : Int) + 1) + 32 * ((l1.length : Int) + 1) + 32 * ((l2.length : Int) + 1)) := by rw [IntKind.wrap_u64]; omega
  rw [q, of_is (by omega) (by omega) (by omega)]
  have e : (a0 + S + 32 * ((l0.length : Int) + 1) + 32 * ((l1.length : Int) + 1) + 32 * ((l2.length : Int) + 1)) + (fin - (a0 + S + 32 * ((l0.length : Int) + 1) + 32 * ((l1.length : Int) + 1) + 32 * ((l2.length : Int) + 1))) = fin := by omega
  rw [e, move_is]
  rfl
end Go.Proofs.Ytccndffoljjadaa.P
