/- The pure statement of the law CapSeals. No condition. -/
import Derived.Test.YtafpkpalkaphkaaDoorKCapSealsPStCapSeals
import Derived.Test.YtafpkpalkaphkaaDoorKCapSealsBase
namespace Go.Proofs.YtafpkpalkaphkaaDoor.Pure
open Go.RowKit Go.Proofs.YtafpkpalkaphkaaDoor.P Go.Proofs.YtafpkpalkaphkaaDoorW.PrintWords Go.Proofs.YtafpkpalkaphkaaDoorW.PrintLast

theorem CapSeals : curtilagelaw02_CapSeals.Pure := by
  rintro ⟨b, t, a, p, y, g⟩ ⟨b', t', a', p', y', g'⟩ ⟨h0, h1, h2, h3, h4, _⟩ ⟨h0', h1', h2', h3', h4', _⟩
  simp only at h0 h1 h2 h3 h4 h0' h1' h2' h3' h4' ⊢
  refine ⟨60 + 1, ?_⟩
  unfold curtilagelaw02_CapSeals.f
  rw [awake_is, right_is, right_is]
  simp only [Option.bind_some]
  by_cases r1 : 0 ≤ p ∧ p ≤ 255 ∧ -1 ≤ y ∧ y ≤ 63
  · by_cases r2 : 0 ≤ p' ∧ p' ≤ 255 ∧ -1 ≤ y' ∧ y' ≤ 63
    · obtain ⟨q, rfl⟩ := Int.eq_ofNat_of_zero_le r2.1
      have := u64_range h2'
      rw [if_pos (decide_eq_true r1), decide_eq_true r2, curtilagelaw02_CapSeals.j0, seal_is b t a p y g b' t' a' q y' g' (by omega), unseal_is b t a p y g b' t' a' q y' g' (by omega) (by omega) (by omega)]
      rw [show (60 : Nat) = 51 + 9 from rfl, rseal_is 51 b t a p y g b' t' a' q y' g' (by omega) (by omega) (by omega), runseal_is 51 b t a p y g b' t' a' q y' g' (by omega) (by omega) (by omega) (by omega) (by omega)]
      simp
    · rw [if_pos (decide_eq_true r1), decide_eq_false r2, curtilagelaw02_CapSeals.j0]; simp
  · rw [if_neg (by simp [r1]), curtilagelaw02_CapSeals.j0]; simp
end Go.Proofs.YtafpkpalkaphkaaDoor.Pure
