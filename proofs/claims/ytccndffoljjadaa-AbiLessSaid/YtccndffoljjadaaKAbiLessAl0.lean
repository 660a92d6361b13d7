/- Where Build lays what, and which capabilities it gives. No condition. -/
import Derived.Test.YtccndffoljjadaaKAbiLessAn1
import Derived.Test.YtccndffoljjadaaKAbiLessAb9a
namespace Go.Proofs.Ytccndffoljjadaa.P
open Go.RowKit Go.Proofs.YtccndffoljjadaaW.PrintWords Go.Proofs.YtccndffoljjadaaW.PrintLast
set_option linter.unusedVariables false
set_option linter.unusedSimpArgs false
theorem sumI_nonneg : ∀ l : List ByteArray, 0 ≤ sumI l
  | [] => by simp [sumI]
  | s :: r => by have := sumI_nonneg r; simp only [sumI]; omega
theorem texts_at : ∀ (l : List ByteArray) (m : Mm) (a : Int) (c : List S30), 0 ≤ a → a + sumI l ≤ 1000000000 → (l.foldl textStep (m, a, c)).2.1 = a + sumI l
  | [], m, a, c, _, _ => by simp [sumI]
  | s :: r, m, a, c, h0, h1 => by
    have hr := sumI_nonneg r
    simp only [sumI] at h1 ⊢
    have e : IntKind.u64.wrap (a + ((s.size : Int) + 1)) = a + ((s.size : Int) + 1) := by rw [IntKind.wrap_u64]; omega
    rw [List.foldl_cons]
    have e2 : textStep (m, a, c) s = ((tagmem_Mem_Put.f m a (bytesOf s ++ [0])).1, a + ((s.size : Int) + 1), c ++ [ofC a ((s.size : Int) + 1) 1]) := by unfold textStep; rw [e]
    rw [e2, texts_at r _ _ _ (by omega) (by omega)]
    omega
theorem caps_at : ∀ (l : List S30) (m : Mm) (a : Int), 0 ≤ a → a + 32 * l.length ≤ 1000000000 → (l.foldl capStep (m, a)).2 = a + 32 * l.length
  | [], m, a, _, _ => by simp
  | x :: r, m, a, h0, h1 => by
    simp only [List.length_cons] at h1 ⊢
    have e : IntKind.u64.wrap (a + 32) = a + 32 := by rw [IntKind.wrap_u64]; omega
    rw [List.foldl_cons]
    obtain ⟨m', hm⟩ : ∃ m', capStep (m, a) x = (m', a + 32) := ⟨_, by unfold capStep; rw [e]⟩
    rw [hm, caps_at r _ _ (by omega) (by omega)]
    omega
theorem list_at (m : Mm) (a : Int) (l : List S30) (h0 : 0 ≤ a) (h1 : a + 32 * (l.length + 1) ≤ 1000000000) : (listF m a l).2 = a + 32 * (l.length + 1) := by
  unfold listF capsF
  rw [caps_at _ m a h0 (by simp; omega)]
  simp
theorem list_cap (m : Mm) (a : Int) (l : List S30) (h0 : 0 ≤ a) (h1 : a + 32 * (l.length + 1) ≤ 16777216) : listC m a l = ⟨a, a + 32 * l.length, a, 9, -1, true⟩ := by
  unfold listC
  rw [list_at m a l h0 (by omega)]
  have e1 : IntKind.u64.wrap (a + 32 * ((l.length : Int) + 1) - a) = 32 * ((l.length : Int) + 1) := by rw [IntKind.wrap_u64]; omega
  rw [e1]
  have e2 : IntKind.u64.wrap (32 * ((l.length : Int) + 1) - 32) = 32 * (l.length : Int) := by rw [IntKind.wrap_u64]; omega
  rw [e2, of_is h0 (by omega) (by omega)]
  rfl
theorem move_is (b t a p x : Int) : moveC ⟨b, t, a, p, -1, true⟩ x = ⟨b, t, x, p, -1, true⟩ := rfl
/-- What Build gives, if it gives anything: the four capabilities, between the region's ends. -/
structure Laid (a0 fin : Int) (n0 n1 n2 : Nat) (S : Int) (b : Bd) : Prop where
  s1 : b.s1 = ⟨a0 + S, a0 + S + 32 * n0, a0 + S, 9, -1, true⟩
  s2 : b.s2 = ⟨a0 + S + 32 * (n0 + 1), a0 + S + 32 * (n0 + 1) + 32 * n1, a0 + S + 32 * (n0 + 1), 9, -1, true⟩
  s3 : b.s3 = ⟨a0 + S + 32 * (n0 + 1) + 32 * (n1 + 1), a0 + S + 32 * (n0 + 1) + 32 * (n1 + 1) + 32 * n2, a0 + S + 32 * (n0 + 1) + 32 * (n1 + 1), 9, -1, true⟩
  s0 : b.s0 = ⟨a0 + S + 32 * (n0 + 1) + 32 * (n1 + 1) + 32 * (n2 + 1), fin, fin, 27, -1, true⟩
theorem buildOk_is (m1 : Mm) (a0 fin : Int) (l0 l1 : List ByteArray) (l2 : List S30) (h0 : 0 ≤ a0) (h1 : fin ≤ 16777216) (h2 : a0 + (sumI l0 + sumI l1 + 31) / 32 * 32 + 32 * ((l0.length : Int) + l1.length + l2.length + 3) + 64 ≤ fin) :
    Laid a0 fin l0.length l1.length l2.length ((sumI l0 + sumI l1 + 31) / 32 * 32) (buildOk m1 a0 fin l0 l1 l2) := by
  have g0 := sumI_nonneg l0
  have g1 := sumI_nonneg l1
  have eA : (textsF m1 a0 l0).2.1 = a0 + sumI l0 := texts_at l0 m1 a0 [] h0 (by omega)
  have eB : (textsF (textsF m1 a0 l0).1 (textsF m1 a0 l0).2.1 l1).2.1 = a0 + sumI l0 + sumI l1 := by rw [eA]; exact texts_at l1 _ _ [] (by omega) (by omega)
  have nA : (textsF m1 a0 l0).2.2.length = l0.length := by have := textsF_len m1 a0 l0 []; simpa [textsF] using this
  have nB : (textsF (textsF m1 a0 l0).1 (textsF m1 a0 l0).2.1 l1).2.2.length = l1.length := by have := textsF_len (textsF m1 a0 l0).1 (textsF m1 a0 l0).2.1 l1 []; simpa [textsF] using this
  unfold buildOk
  dsimp only
  generalize textsF m1 a0 l0 = A at eA eB nA nB
  generalize textsF A.1 A.2.1 l1 = B at eB nB
  have e4 : IntKind.u64.wrap (a0 + IntKind.u64.wrap (upW (wrap64 (IntKind.u64.wrap (B.2.1 - a0))))) = a0 + (sumI l0 + sumI l1 + 31) / 32 * 32 := by
    rw [eB]
    have q1 : IntKind.u64.wrap (a0 + sumI l0 + sumI l1 - a0) = sumI l0 + sumI l1 := by rw [IntKind.wrap_u64]; omega
    have q2 : wrap64 (sumI l0 + sumI l1) = sumI l0 + sumI l1 := by unfold wrap64; omega
    rw [q1, q2, upW_is (by omega) (by omega)]
    have q3 : IntKind.u64.wrap ((sumI l0 + sumI l1 + 31) / 32 * 32) = (sumI l0 + sumI l1 + 31) / 32 * 32 := by rw [IntKind.wrap_u64]; omega
    rw [q3, IntKind.wrap_u64]
    omega
  rw [e4]
  have s0 : 0 ≤ (sumI l0 + sumI l1 + 31) / 32 * 32 := by omega
  clear e4 eA eB
  generalize (sumI l0 + sumI l1 + 31) / 32 * 32 = S at h2 s0 ⊢
  have c1 := list_at B.1 (a0 + S) A.2.2 (by omega) (by rw [nA]; omega)
  have k1 := list_cap B.1 (a0 + S) A.2.2 (by omega) (by rw [nA]; omega)
  rw [nA] at c1 k1
  generalize listC B.1 (a0 + S) A.2.2 = x1 at k1
  generalize listF B.1 (a0 + S) A.2.2 = C at c1
  obtain ⟨mC, aC⟩ := C
  simp only at c1
  subst c1
  have c2 := list_at mC (a0 + S + 32 * ((l0.length : Int) + 1)) B.2.2 (by omega) (by rw [nB]; omega)
  have k2 := list_cap mC (a0 + S + 32 * ((l0.length : Int) + 1)) B.2.2 (by omega) (by rw [nB]; omega)
  rw [nB] at c2 k2
  try simp only
  generalize listC mC (a0 + S + 32 * ((l0.length : Int) + 1)) B.2.2 = x2 at k2
  generalize listF mC (a0 + S + 32 * ((l0.length : Int) + 1)) B.2.2 = D at c2
  obtain ⟨mD, aD⟩ := D
  simp only at c2
  subst c2
  have c3 := list_at mD (a0 + S + 32 * ((l0.length : Int) + 1) + 32 * ((l1.length : Int) + 1)) l2 (by omega) (by omega)
  have k3 := list_cap mD (a0 + S + 32 * ((l0.length : Int) + 1) + 32 * ((l1.length : Int) + 1)) l2 (by omega) (by omega)
  try simp only
  generalize listC mD (a0 + S + 32 * ((l0.length : Int) + 1) + 32 * ((l1.length : Int) + 1)) l2 = x3 at k3
  generalize listF mD (a0 + S + 32 * ((l0.length : Int) + 1) + 32 * ((l1.length : Int) + 1)) l2 = E at c3
  obtain ⟨mE, aE⟩ := E
  simp only at c3
  subst c3
  refine ⟨k1, k2, k3, ?_⟩
  try simp only
  have q : IntKind.u64.wrap (fin - (a0 + S + 32 * ((l0.length : Int) + 1) + 32 * ((l1.length : Int) + 1) + 32 * ((l2.length : Int) + 1))) = fin - (a0 + S + 32 * ((l0.length : Int) + 1) + 32 * ((l1.length : Int) + 1) + 32 * ((l2.length : Int) + 1)) := by rw [IntKind.wrap_u64]; omega
  rw [q, of_is (by omega) (by omega) (by omega)]
  have e : (a0 + S + 32 * ((l0.length : Int) + 1) + 32 * ((l1.length : Int) + 1) + 32 * ((l2.length : Int) + 1)) + (fin - (a0 + S + 32 * ((l0.length : Int) + 1) + 32 * ((l1.length : Int) + 1) + 32 * ((l2.length : Int) + 1))) = fin := by omega
  rw [e, move_is]
  rfl
end Go.Proofs.Ytccndffoljjadaa.P
