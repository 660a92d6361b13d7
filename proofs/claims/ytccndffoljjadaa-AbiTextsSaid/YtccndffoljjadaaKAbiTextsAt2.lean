/- What stands in memory behind Build: each list tells its texts. No condition. -/
import Derived.Test.YtccndffoljjadaaKAbiTextsAt1
namespace Go.Proofs.Ytccndffoljjadaa.P
open Go.RowKit Go.Proofs.YtccndffoljjadaaW.PrintWords Go.Proofs.YtccndffoljjadaaW.PrintLast
set_option linter.unusedVariables false
set_option linter.unusedSimpArgs false
theorem Same.mono {m m' : Mm} {lo hi lo' hi' : Int} (h : Same m m' lo hi) (h1 : lo' ≤ lo) (h2 : hi ≤ hi') : Same m m' lo' hi' :=
  ⟨h.wf, h.has, fun x hx => h.byte x (by omega), fun x hx => h.tag x (by omega)⟩
theorem list_same {m : Mm} {a : Int} {l : List S30} (h : m.Wf) (h0 : 0 ≤ a) (h32 : a % 32 = 0) (h1 : a + 32 * (l.length + 1) ≤ 16777216) (hm : ∀ x, a ≤ x → x < a + 32 * (l.length + 1) → m.has x = true) : Same m (listF m a l).1 a (a + 32 * (l.length + 1)) := by
  have e : ((l ++ [nullC]).length : Int) = (l.length : Int) + 1 := by rw [List.length_append]; simp
  have := (caps_lay (l ++ [nullC]) m a h h0 h32 (by rw [e]; exact h1) (fun x hx hx2 => hm x hx (by rw [e] at hx2; exact hx2))).1
  rw [e] at this
  exact this
theorem build_told {m1 : Mm} (hw : m1.Wf) {a0 fin : Int} {l0 l1 : List ByteArray} (h0 : 0 ≤ a0) (h32 : a0 % 32 = 0) (h1 : fin ≤ 16777216) (h2 : a0 + (sumI l0 + sumI l1 + 31) / 32 * 32 + 32 * ((l0.length : Int) + l1.length + 3) + 64 ≤ fin) (hm : ∀ x, a0 ≤ x → x < fin → m1.has x = true) :
    ToldOk (buildOk m1 a0 fin l0 l1 []).m (a0 + (sumI l0 + sumI l1 + 31) / 32 * 32) l0 ∧ ToldOk (buildOk m1 a0 fin l0 l1 []).m (a0 + (sumI l0 + sumI l1 + 31) / 32 * 32 + 32 * (l0.length + 1)) l1 ∧ ToldOk (buildOk m1 a0 fin l0 l1 []).m (a0 + (sumI l0 + sumI l1 + 31) / 32 * 32 + 32 * (l0.length + 1) + 32 * (l1.length + 1)) [] := by
  have g0 := sumI_nonneg l0
  have g1 := sumI_nonneg l1
  have eA : (textsF m1 a0 l0).2.1 = a0 + sumI l0 := texts_at l0 m1 a0 [] h0 (by omega)
  obtain ⟨A1, A2, A3⟩ := texts_lay l0 m1 a0 [] hw h0 (by omega) (fun x hx hx2 => hm x hx (by omega))
  change Same m1 (textsF m1 a0 l0).1 _ _ at A1
  change (textsF m1 a0 l0).2.2 = _ at A2
  change ∀ (i : Nat) (hi : i < l0.length), (textsF m1 a0 l0).1.bytes _ _ = _ at A3
  rw [List.nil_append] at A2
  obtain ⟨B1, B2, B3⟩ := texts_lay l1 (textsF m1 a0 l0).1 (a0 + sumI l0) [] A1.wf (by omega) (by omega) (fun x hx hx2 => by rw [A1.has]; exact hm x (by omega) (by omega))
  have eB : (textsF (textsF m1 a0 l0).1 (a0 + sumI l0) l1).2.1 = a0 + sumI l0 + sumI l1 := texts_at l1 _ _ [] (by omega) (by omega)
  change Same (textsF m1 a0 l0).1 (textsF (textsF m1 a0 l0).1 (a0 + sumI l0) l1).1 _ _ at B1
  change (textsF (textsF m1 a0 l0).1 (a0 + sumI l0) l1).2.2 = _ at B2
  change ∀ (i : Nat) (hi : i < l1.length), (textsF (textsF m1 a0 l0).1 (a0 + sumI l0) l1).1.bytes _ _ = _ at B3
  rw [List.nil_append] at B2
  unfold buildOk
  dsimp only
  rw [eA]
  generalize textsF m1 a0 l0 = A at A1 A2 A3 B1 B2 B3 eB ⊢
  generalize textsF A.1 (a0 + sumI l0) l1 = B at B1 B2 B3 eB ⊢
  have e4 : IntKind.u64.wrap (a0 + IntKind.u64.wrap (upW (wrap64 (IntKind.u64.wrap (B.2.1 - a0))))) = a0 + (sumI l0 + sumI l1 + 31) / 32 * 32 := by
    rw [eB]
    have q1 : IntKind.u64.wrap (a0 + sumI l0 + sumI l1 - a0) = sumI l0 + sumI l1 := by rw [IntKind.wrap_u64]; omega
    have q2 : wrap64 (sumI l0 + sumI l1) = sumI l0 + sumI l1 := by unfold wrap64; omega
    rw [q1, q2, upW_is (by omega) (by omega)]
    have q3 : IntKind.u64.wrap ((sumI l0 + sumI l1 + 31) / 32 * 32) = (sumI l0 + sumI l1 + 31) / 32 * 32 := by rw [IntKind.wrap_u64]; omega
    rw [q3, IntKind.wrap_u64]
    omega
  rw [e4, A2, B2]
  have hS : sumI l0 + sumI l1 ≤ (sumI l0 + sumI l1 + 31) / 32 * 32 ∧ ((sumI l0 + sumI l1 + 31) / 32 * 32) % 32 = 0 := by omega
  clear e4 eA eB A2 B2
  generalize (sumI l0 + sumI l1 + 31) / 32 * 32 = S at h2 hS ⊢
  obtain ⟨s1, s2⟩ := hS
  have lA := capsAt_len a0 l0
  have lB := capsAt_len (a0 + sumI l0) l1
  have hasB : ∀ x, a0 ≤ x → x < fin → B.1.has x = true := fun x hx hx2 => by rw [B1.has, A1.has]; exact hm x hx hx2
  have C1 := list_same (m := B.1) (a := a0 + S) (l := capsAt a0 l0) B1.wf (by omega) (by omega) (by rw [lA]; omega) (fun x hx hx2 => hasB x (by omega) (by rw [lA] at hx2; omega))
  have eC := list_at B.1 (a0 + S) (capsAt a0 l0) (by omega) (by rw [lA]; omega)
  rw [lA] at C1 eC
  rw [eC]
  have hasC : ∀ x, a0 ≤ x → x < fin → (listF B.1 (a0 + S) (capsAt a0 l0)).1.has x = true := fun x hx hx2 => by rw [C1.has]; exact hasB x hx hx2
  have D1 := list_same (m := (listF B.1 (a0 + S) (capsAt a0 l0)).1) (a := a0 + S + 32 * ((l0.length : Int) + 1)) (l := capsAt (a0 + sumI l0) l1) C1.wf (by omega) (by omega) (by rw [lB]; omega) (fun x hx hx2 => hasC x (by omega) (by rw [lB] at hx2; omega))
  have eD := list_at (listF B.1 (a0 + S) (capsAt a0 l0)).1 (a0 + S + 32 * ((l0.length : Int) + 1)) (capsAt (a0 + sumI l0) l1) (by omega) (by rw [lB]; omega)
  rw [lB] at D1 eD
  rw [eD]
  have T1 := fun M (hM : Same (capsF B.1 (a0 + S) (capsAt a0 l0 ++ [nullC])).1 M (a0 + S + 32 * ((l0.length : Int) + 1)) 16777216) => told_list (l := l0) (a := a0) (base := a0 + S) B1.wf h0 (by omega) (by omega) (by omega) (fun x hx hx2 => hasB x hx (by omega)) (fun i hi => by have k := sumI_take l0 hi; rw [B1.bytes (by omega)]; exact A3 i hi) hM
  have T2 := fun M (hM : Same (capsF (listF B.1 (a0 + S) (capsAt a0 l0)).1 (a0 + S + 32 * ((l0.length : Int) + 1)) (capsAt (a0 + sumI l0) l1 ++ [nullC])).1 M (a0 + S + 32 * ((l0.length : Int) + 1) + 32 * ((l1.length : Int) + 1)) 16777216) => told_list (l := l1) (a := a0 + sumI l0) (base := a0 + S + 32 * ((l0.length : Int) + 1)) C1.wf (by omega) (by omega) (by omega) (by omega) (fun x hx hx2 => hasC x (by omega) (by omega)) (fun i hi => by have k := sumI_take l1 hi; rw [C1.bytes (by omega)]; exact B3 i hi) hM
  change ∀ M, Same (listF B.1 (a0 + S) (capsAt a0 l0)).1 M _ _ → _ at T1
  change ∀ M, Same (listF (listF B.1 (a0 + S) (capsAt a0 l0)).1 (a0 + S + 32 * ((l0.length : Int) + 1)) (capsAt (a0 + sumI l0) l1)).1 M _ _ → _ at T2
  generalize (listF B.1 (a0 + S) (capsAt a0 l0)).1 = mC at C1 hasC D1 T1 T2 eD ⊢
  have hasD : ∀ x, a0 ≤ x → x < fin → (listF mC (a0 + S + 32 * ((l0.length : Int) + 1)) (capsAt (a0 + sumI l0) l1)).1.has x = true := fun x hx hx2 => by rw [D1.has]; exact hasC x hx hx2
  generalize (listF mC (a0 + S + 32 * ((l0.length : Int) + 1)) (capsAt (a0 + sumI l0) l1)).1 = mD at D1 hasD T2 ⊢
  have E1 := list_same (m := mD) (a := a0 + S + 32 * ((l0.length : Int) + 1) + 32 * ((l1.length : Int) + 1)) (l := []) D1.wf (by omega) (by omega) (by simp; omega) (fun x hx hx2 => hasD x (by omega) (by simp at hx2; omega))
  have hb : 0 ≤ a0 + S + 32 * ((l0.length : Int) + 1) + 32 * ((l1.length : Int) + 1) ∧ (a0 + S + 32 * ((l0.length : Int) + 1) + 32 * ((l1.length : Int) + 1)) % 32 = 0 ∧ a0 + S + 32 * ((l0.length : Int) + 1) + 32 * ((l1.length : Int) + 1) + 96 ≤ 16777216 := by omega
  have hx3 : ∀ x, a0 + S + 32 * ((l0.length : Int) + 1) + 32 * ((l1.length : Int) + 1) ≤ x → x < a0 + S + 32 * ((l0.length : Int) + 1) + 32 * ((l1.length : Int) + 1) + 32 → mD.has x = true := fun x hx hx2 => hasD x (by omega) (by omega)
  have S12 := D1.then_ (E1.mono (Int.le_refl _) (Int.le_refl _)) (by omega) (by simp; omega) (by omega) (by simp; omega)
  refine ⟨T1 _ (S12.mono (Int.le_refl _) (by simp; omega)), T2 _ (E1.mono (Int.le_refl _) (by simp; omega)), ?_⟩
  have hwD := D1.wf
  clear T1 T2 S12 C1 hasC D1 hasD hasB A3 B3 A1 B1
  generalize a0 + S + 32 * ((l0.length : Int) + 1) + 32 * ((l1.length : Int) + 1) = base at E1 hb hx3 ⊢
  have e0 : (([] : List ByteArray).length : Int) = 0 := rfl
  have e1 : (([] : List S30).length : Int) = 0 := rfl
  exact told_list (m := mD) (l := []) (a := base) (base := base) hwD hb.1 (by simp [sumI]) hb.2.1 (by rw [e0]; omega) (fun x hx hx2 => hx3 x hx (by rw [e0] at hx2; omega)) (fun i hi => by simp at hi) (Same.refl E1.wf _ _)
end Go.Proofs.Ytccndffoljjadaa.P
