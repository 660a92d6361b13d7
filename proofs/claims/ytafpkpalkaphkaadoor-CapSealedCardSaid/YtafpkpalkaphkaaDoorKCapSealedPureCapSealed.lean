/- The pure statement of the law CapSealed. No condition. -/
import Derived.Test.YtafpkpalkaphkaaDoorKCapSealedPStCapSealed
import Derived.Test.YtafpkpalkaphkaaDoorKCapSealedBase
namespace Go.Proofs.YtafpkpalkaphkaaDoor.Pure
open Go.RowKit Go.Proofs.YtafpkpalkaphkaaDoor.P Go.Proofs.YtafpkpalkaphkaaDoorW.PrintWords Go.Proofs.YtafpkpalkaphkaaDoorW.PrintLast
set_option linter.unusedVariables false
set_option linter.unusedSimpArgs false
theorem sealed_and (b t a : Int) (p : Nat) (y : Int) (g : Bool) (q : Int) (hp : p < 256) : cap_And.f b t a (p : Int) y g q = some (b, t, a, ((p &&& low q : Nat) : Int), y, g && !decide (y ≥ 0)) := by
  unfold cap_And.f; rw [and64_any p q hp, open_is]; rfl
theorem sealed_1 (k : Nat) (w q : Int) (b t a : Int) (p : Nat) (b' t' a' : Int) (p' : Nat) (y' : Int) (g' : Bool) (hp : p < 256) (hp' : p' < 256)
    (ha : 0 ≤ a ∧ a ≤ 18446744073709551615) (ht : 0 ≤ t ∧ t ≤ 18446744073709551615) (hw : 0 ≤ w ∧ w ≤ 18446744073709551615) (ha' : 0 ≤ a') (K : keyB b' t' a' p' y' g' 32 = true) :
    curtilagelaw02_CapSealed.j0 (k + 1) w q true false b t a (p : Int) (-1) true b' t' a' (p' : Int) y' g' = some true := by
  have K' := K
  unfold keyB at K'
  simp only [Bool.and_eq_true, decide_eq_true_eq] at K'
  obtain ⟨⟨⟨rfl, hy'⟩, _⟩, k1, k2, k3⟩ := K'
  have K64 : keyB b' t' a' p' y' true 64 = decide (p' &&& 64 ≠ 0) := by
    unfold keyB
    rw [decide_eq_true hy', decide_eq_true (show b' ≤ a' ∧ a' < t' ∧ a' < 64 from ⟨k1, k2, k3⟩)]; simp
  have e64 : Go.bits .and .i64 (p' : Int) 64 = ((p' &&& 64 : Nat) : Int) := and64 p' 64 hp' (by omega)
  have S2 : ∀ z : Int, z = a' → ((if (true = true ∧ 0 ≤ a' ∧ keyB b' t' a' p' y' true 64 = true ∧ a' = a') then (b, t, a, (p : Int), (-1 : Int), true) else (b, t, a, (p : Int), a', false)) = (if p' &&& 64 = 0 then (b, t, a, (p : Int), a', false) else (b, t, a, (p : Int), (-1 : Int), true))) := by
    intro _ _
    by_cases u : p' &&& 64 = 0 <;> simp [K64, u, ha']
  rw [curtilagelaw02_CapSealed.j0, if_neg (by decide), seal_is b t a p (-1) true b' t' a' p' y' true hp', if_pos ⟨rfl, by decide, K⟩, wrap_in (by omega) (by omega), Option.bind_some, if_pos rfl]
  rw [check_is b t a p a' true w q hp ha ht hw, Option.bind_some, move_is b t a p a' true w, Option.bind_some, bound_is b t a p a' true w ha ht hw, Option.bind_some, sealed_and b t a p a' true q hp, Option.bind_some]
  rw [seal_is b t a p a' true b' t' a' p' y' true hp', Option.bind_some, unseal_is b t a p a' true b' t' a' p' y' true hp' (by omega) (by omega), Option.bind_some, move_is b' t' a' p' y' true w, Option.bind_some]
  dsimp only
  rw [unseal_is b t a p a' true b' t' w p' y' _ hp' (by omega) (by omega), Option.bind_some, S2 a' rfl, e64]
  have n0 : ¬ a' < 0 := by omega
  have n1 : ¬ (true = true ∧ a' < 0 ∧ b ≤ a ∧ a + w ≤ t) := fun h => n0 h.2.1
  have n2 : ¬ (true = true ∧ a' < 0 ∧ keyB b' t' a' p' y' true 32 = true) := fun h => n0 h.2.1
  have n3 : (true && !decide (a' ≥ 0)) = false := by simp [ha']
  have n4 : ¬ (-1 : Int) = a' := by omega
  have n5 : ¬ a' = (-1 : Int) := by omega
  rw [if_neg n1, if_neg n2, n3, if_pos rfl, if_neg n0]
  by_cases u : p' &&& 64 = 0
  · by_cases v : w = a'
    · simp [u, v, n5]
    · simp [u, v, n5]
  · by_cases v : w = a'
    · simp [u, v]
    · simp [u, v]
theorem CapSealed : curtilagelaw02_CapSealed.Pure := by
  rintro ⟨b, t, a, p, y, g⟩ ⟨b', t', a', p', y', g'⟩ w q ⟨h0, h1, h2, h3, h4, _⟩ ⟨h0', h1', h2', h3', h4', _⟩ hw hq
  simp only at h0 h1 h2 h3 h4 h0' h1' h2' h3' h4' ⊢
  have h1 := u64_range h1; have h2 := u64_range h2; have hw := u64_range hw; have h2' := u64_range h2'
  refine ⟨60 + 1, ?_⟩
  unfold curtilagelaw02_CapSealed.f
  rw [awake_is, right_is, right_is]
  simp only [Option.bind_some]
  by_cases r1 : 0 ≤ p ∧ p ≤ 255 ∧ -1 ≤ y ∧ y ≤ 63
  · by_cases r2 : 0 ≤ p' ∧ p' ≤ 255 ∧ -1 ≤ y' ∧ y' ≤ 63
    · rw [if_pos (decide_eq_true r1), if_pos (decide_eq_true r2)]
      by_cases hq0 : q < 0
      · rw [if_pos hq0, curtilagelaw02_CapSealed.j0, if_pos rfl]
      · rw [if_neg hq0]
        by_cases hq1 : q > 255
        · rw [decide_eq_true hq1, curtilagelaw02_CapSealed.j0, if_pos rfl]
        · rw [decide_eq_false hq1]
          obtain ⟨m, rfl⟩ := Int.eq_ofNat_of_zero_le r1.1
          obtain ⟨m', rfl⟩ := Int.eq_ofNat_of_zero_le r2.1
          by_cases S : g = true ∧ y < 0 ∧ keyB b' t' a' m' y' g' 32 = true
          · obtain ⟨rfl, s1, s2⟩ := S
            obtain rfl : y = -1 := by omega
            exact sealed_1 60 w q b t a m b' t' a' m' y' g' (by omega) (by omega) h2 h1 hw h2'.1 s2
          · rw [curtilagelaw02_CapSealed.j0, if_neg (by decide), seal_is b t a m y g b' t' a' m' y' g' (by omega), if_neg S, Option.bind_some, if_neg (by simp)]
    · rw [if_pos (decide_eq_true r1), if_neg (by simp [r2]), curtilagelaw02_CapSealed.j0, if_pos rfl]
  · rw [if_neg (by simp [r1]), curtilagelaw02_CapSealed.j0, if_pos rfl]
end Go.Proofs.YtafpkpalkaphkaaDoor.Pure
