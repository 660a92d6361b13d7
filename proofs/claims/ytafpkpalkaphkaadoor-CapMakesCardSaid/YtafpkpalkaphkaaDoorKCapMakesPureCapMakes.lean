/- The pure statement of the law CapMakes. No condition. -/
import Derived.Test.YtafpkpalkaphkaaDoorKCapMakesPStCapMakes
import Derived.Test.YtafpkpalkaphkaaDoorKCapMakesMore
namespace Go.Proofs.YtafpkpalkaphkaaDoor.Pure
open Go.RowKit Go.Proofs.YtafpkpalkaphkaaDoor.P Go.Proofs.YtafpkpalkaphkaaDoorW.PrintWords Go.Proofs.YtafpkpalkaphkaaDoorW.PrintLast
set_option linter.unusedVariables false
set_option linter.unusedSimpArgs false

theorem CapMakes : curtilagelaw02_CapMakes.Pure := by
  rintro ⟨b, t, a, p, y, g⟩ w q ⟨h0, h1, h2, h3, h4, _⟩ hw hq
  simp only at h0 h1 h2 h3 h4 ⊢
  have h0 := u64_range h0; have h1 := u64_range h1; have h2 := u64_range h2; have hw := u64_range hw
  refine ⟨60 + 1, ?_⟩
  unfold curtilagelaw02_CapMakes.f
  rw [awake_is, right_is]
  have e1 : ∀ n, cap_Int.f n = some (0, 0, n, 0, -1, false) := fun _ => rfl
  have e2 : ∀ n, curtilageref02_Int.f n = some (0, 0, n, 0, -1, false) := fun _ => rfl
  have e3 : cap_Null.f = some (0, 0, 0, 0, -1, false) := rfl
  have e4 : ∀ n, cap_Root.f n = some (0, n, 0, 255, -1, true) := fun _ => rfl
  have e5 : ∀ n, curtilageref02_Root.f n = some (0, n, 0, 255, -1, true) := fun _ => rfl
  rw [e1, e2, e2, e3, e4, e5]
  simp only [Option.bind_some, beq_self_eq_true, Bool.not_true, Bool.or_false, Bool.false_eq_true, if_false]
  by_cases r1 : 0 ≤ p ∧ p ≤ 255 ∧ -1 ≤ y ∧ y ≤ 63
  · obtain ⟨m, rfl⟩ := Int.eq_ofNat_of_zero_le r1.1
    rw [decide_eq_true r1, curtilagelaw02_CapMakes.j0, move_is, bound_is b t a m y g w h2 h1 hw, and_is b t a m y g q (by omega), clear_is, rmove_is b t a m y g w (by omega), rbound_is b t a m y g w h2 h1 hw (by omega), rclear_is]
    rw [show (60 : Nat) = 51 + 9 from rfl, rand_is 51 b t a m y g q (by omega) (by omega)]
    simp only [Option.bind_some]
    by_cases hy : y < 0
    · have : y = -1 := by omega
      subst this
      simp
    · have : ¬ (g = true ∧ y < 0 ∧ b ≤ a ∧ a + w ≤ t) := fun h => hy h.2.1
      simp [this]
  · rw [decide_eq_false r1, curtilagelaw02_CapMakes.j0]; simp
end Go.Proofs.YtafpkpalkaphkaaDoor.Pure
