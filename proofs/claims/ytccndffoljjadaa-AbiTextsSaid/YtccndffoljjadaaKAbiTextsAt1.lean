/- What stands in memory behind Build. No condition. -/
import Derived.Test.YtccndffoljjadaaKAbiTextsAt0
namespace Go.Proofs.Ytccndffoljjadaa.P
open Go.RowKit Go.Proofs.YtccndffoljjadaaW.PrintWords Go.Proofs.YtccndffoljjadaaW.PrintLast
set_option linter.unusedVariables false
set_option linter.unusedSimpArgs false
theorem capsAt_len : ∀ (a : Int) (l : List ByteArray), (capsAt a l).length = l.length
  | _, [] => rfl
  | a, s :: r => by simp only [capsAt, List.length_cons, capsAt_len]
theorem capsAt_get : ∀ (a : Int) (l : List ByteArray) (i : Nat) (hi : i < l.length), (capsAt a l)[i]'(by rw [capsAt_len]; exact hi) = ⟨a + sumI (l.take i), a + sumI (l.take i) + ((l[i].size : Int) + 1), a + sumI (l.take i), 1, -1, true⟩
  | a, s :: r, 0, _ => by simp [capsAt, sumI]
  | a, s :: r, i + 1, hi => by
    have := capsAt_get (a + ((s.size : Int) + 1)) r i (by simpa using hi)
    simp only [capsAt, List.getElem_cons_succ, List.take_succ_cons, sumI]
    rw [this, show a + ((s.size : Int) + 1) + sumI (r.take i) = a + ((s.size : Int) + 1 + sumI (r.take i)) by omega]
theorem sumI_take (l : List ByteArray) {i : Nat} (hi : i < l.length) : sumI (l.take i) + ((l[i].size : Int) + 1) ≤ sumI l ∧ 0 ≤ sumI (l.take i) := by
  refine ⟨?_, sumI_nonneg _⟩
  have e : l = l.take i ++ l[i] :: l.drop (i + 1) := by rw [List.getElem_cons_drop, List.take_append_drop]
  have h2 : sumI l = sumI (l.take i) + ((l[i].size : Int) + 1 + sumI (l.drop (i + 1))) := by
    conv => lhs; rw [e]
    rw [sumI_app]
    rfl
  have := sumI_nonneg (l.drop (i + 1))
  omega
/-- A list in memory tells these texts. -/
structure ToldOk (M : Mm) (base : Int) (l : List ByteArray) : Prop where
  wf : M.Wf
  at_ : 0 ≤ base ∧ base % 32 = 0 ∧ base + 32 * (l.length + 1) ≤ 16777216
  has : ∀ i : Nat, i ≤ l.length → M.has (base + 32 * i) = true
  cap : ∀ (i : Nat) (hi : i < l.length), ∃ p : Int, (0 ≤ p ∧ p + ((l[i].size : Int) + 1) ≤ 16777216) ∧ M.bytes (base + 32 * i) 32 = capL p (p + ((l[i].size : Int) + 1)) p 1 (-1) ∧ M.tag (base + 32 * i) = true ∧ M.bytes p (l[i].size + 1) = bytesOf l[i] ++ [0] ∧ ∀ x, p ≤ x → x < p + ((l[i].size : Int) + 1) → M.has x = true
  fin : M.tag (base + 32 * l.length) = false
/-- A list, laid behind texts that stand in memory. -/
theorem told_list {m M : Mm} {l : List ByteArray} {a base : Int} (hw : m.Wf) (h0 : 0 ≤ a) (hb : a + sumI l ≤ base) (h32 : base % 32 = 0) (h1 : base + 32 * (l.length + 1) ≤ 16777216) (hm : ∀ x, a ≤ x → x < base + 32 * (l.length + 1) → m.has x = true)
    (ht : ∀ (i : Nat) (hi : i < l.length), m.bytes (a + sumI (l.take i)) (l[i].size + 1) = bytesOf l[i] ++ [0]) (hM : Same (capsF m base (capsAt a l ++ [nullC])).1 M (base + 32 * (l.length + 1)) 16777216) : ToldOk M base l := by
  have g := sumI_nonneg l
  obtain ⟨S, C⟩ := caps_lay (capsAt a l ++ [nullC]) m base hw (by omega) h32 (by rw [List.length_append, capsAt_len]; simp; omega) (fun x hx hx2 => hm x (by omega) (by rw [List.length_append, capsAt_len] at hx2; simp at hx2; omega))
  have ln : ((capsAt a l ++ [nullC]).length : Int) = (l.length : Int) + 1 := by rw [List.length_append, capsAt_len]; simp
  rw [ln] at S
  have C' := fun (i : Nat) (hi : i ≤ l.length) => C i (by rw [List.length_append, capsAt_len]; simp; omega)
  change Same (capsF m base (capsAt a l ++ [nullC])).1 M _ _ at hM
  unfold capsF at hM
  refine ⟨hM.wf, ⟨by omega, h32, h1⟩, fun i hi => ?_, fun i hi => ?_, ?_⟩
  · rw [hM.has, S.has]; exact hm _ (by omega) (by omega)
  · obtain ⟨c1, c2⟩ := C' i (by omega)
    obtain ⟨k1, k2⟩ := sumI_take l hi
    have eg : (capsAt a l ++ [nullC])[i]'(by rw [List.length_append, capsAt_len]; simp; omega) = ⟨a + sumI (l.take i), a + sumI (l.take i) + ((l[i].size : Int) + 1), a + sumI (l.take i), 1, -1, true⟩ := by
      rw [List.getElem_append_left (by rw [capsAt_len]; exact hi)]; exact capsAt_get a l i hi
    rw [eg] at c1 c2
    refine ⟨a + sumI (l.take i), ⟨by omega, by omega⟩, ?_, ?_, ?_, fun x hx hx2 => ?_⟩
    · rw [hM.bytes (by omega)]; exact c1
    · rw [hM.tag _ (by omega)]; exact c2
    · rw [hM.bytes (by omega), S.bytes (by omega)]; exact ht i hi
    · rw [hM.has, S.has]; exact hm x (by omega) (by omega)
  · obtain ⟨c1, c2⟩ := C' l.length (Nat.le_refl _)
    have eg : (capsAt a l ++ [nullC])[l.length]'(by rw [List.length_append, capsAt_len]; simp) = nullC := by
      rw [List.getElem_append_right (by rw [capsAt_len]; omega)]
      simp
    rw [eg] at c2
    rw [hM.tag _ (by omega)]
    exact c2
end Go.Proofs.Ytccndffoljjadaa.P
