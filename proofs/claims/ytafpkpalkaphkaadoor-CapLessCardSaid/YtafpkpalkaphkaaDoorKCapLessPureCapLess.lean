/- The pure statement of the law CapLess. No condition. -/
import Derived.Test.YtafpkpalkaphkaaDoorKCapLessPStCapLess
import Derived.Test.YtafpkpalkaphkaaDoorKCapLessMore
namespace Go.Proofs.YtafpkpalkaphkaaDoor.Pure
open Go.RowKit Go.Proofs.YtafpkpalkaphkaaDoor.P Go.Proofs.YtafpkpalkaphkaaDoorW.PrintWords Go.Proofs.YtafpkpalkaphkaaDoorW.PrintLast
set_option linter.unusedVariables false
set_option linter.unusedSimpArgs false

theorem within_le {b t b' t' : Int} {p p' : Nat} {y : Int} {g g' : Bool} (hg : g = true → g' = true) (hp : p &&& p' = p) (hb : b' ≤ b) (ht : t ≤ t') : withinB b t p y g b' t' p' y g' = true := by
  unfold withinB
  cases g
  · rfl
  · rw [hg rfl]; simp [hp, hb, ht]
theorem bound_within (b t a w : Int) (p : Nat) (g : Bool) (hp : p < 256) (ha : 0 ≤ a ∧ a ≤ 18446744073709551615) (ht : 0 ≤ t ∧ t ≤ 18446744073709551615) (hw : 0 ≤ w ∧ w ≤ 18446744073709551615) (a' : Int) (g' : Bool) (hg : g = true → g' = true) :
    ((cap_Bound.f b t a p (-1) g w).bind fun x => cap_Within.f x.1 x.2.1 x.2.2.1 x.2.2.2.1 x.2.2.2.2.1 x.2.2.2.2.2 b t a' p (-1) g') = some true := by
  rw [bound_is b t a p (-1) g w ha ht hw]
  simp only [Option.bind_some]
  split
  · rename_i h
    simp only
    rw [within_is a (a + w) a p (-1) true b t a' p (-1) g' hp hp, within_le (fun _ => hg h.1) (Nat.and_self p) h.2.2.1 h.2.2.2]
  · simp only
    rw [within_is b t a p (-1) false b t a' p (-1) g' hp hp, within_le (fun h => by cases h) (Nat.and_self p) (Int.le_refl _) (Int.le_refl _)]
theorem CapLess : curtilagelaw02_CapLess.Pure := by
  rintro ⟨b, t, a, p, y, g⟩ w q ⟨h0, h1, h2, h3, h4, _⟩ hw hq
  simp only at h0 h1 h2 h3 h4 ⊢
  have h0 := u64_range h0; have h1 := u64_range h1; have h2 := u64_range h2; have hw := u64_range hw
  refine ⟨60 + 1, ?_⟩
  unfold curtilagelaw02_CapLess.f
  rw [awake_is, right_is]
  simp only [Option.bind_some]
  by_cases r1 : 0 ≤ p ∧ p ≤ 255 ∧ -1 ≤ y ∧ y ≤ 63
  · rw [if_pos (decide_eq_true r1), curtilagelaw02_CapLess.j0]
    by_cases hy : y = -1
    · subst hy
      obtain ⟨m, rfl⟩ := Int.eq_ofNat_of_zero_le r1.1
      have hm : m < 256 := by omega
      have hq2 : 0 ≤ IntKind.u64.wrap q ∧ IntKind.u64.wrap q ≤ 18446744073709551615 := by rw [wrapu_mod]; omega
      have B1 := bound_within b t a w m g hm h2 h1 hw a g id
      have B2 := bound_within b t w (IntKind.u64.wrap q) m (g && !decide ((-1 : Int) ≥ 0)) hm hw h1 hq2 a g (fun h => by simpa using h)
      obtain ⟨⟨x1, x2, x3, x4, x5, x6⟩, e1, B1⟩ := Option.bind_eq_some_iff.1 B1
      obtain ⟨⟨z1, z2, z3, z4, z5, z6⟩, e2, B2⟩ := Option.bind_eq_some_iff.1 B2
      simp only at B1 B2
      rw [move_is, e1]
      simp only [Option.bind_some]
      rw [e2, B1, and_is b t a m (-1) g q hm, clear_is]
      simp only [Option.bind_some]
      rw [B2, within_is b t w m (-1) _ b t a m (-1) g hm hm, within_is b t a (m &&& low q) (-1) _ b t a m (-1) g (Nat.lt_of_le_of_lt Nat.and_le_left hm) hm, within_is b t a m (-1) false b t a m (-1) g hm hm, within_is b t a m (-1) g b t a m (-1) g hm hm]
      rw [within_le (fun h => by simpa using h) (Nat.and_self m) (Int.le_refl _) (Int.le_refl _), within_le (fun h => by simpa using h) (by rw [Nat.and_assoc, Nat.and_comm (low q) m, ← Nat.and_assoc, Nat.and_self]) (Int.le_refl _) (Int.le_refl _), within_le (fun h => by cases h) (Nat.and_self m) (Int.le_refl _) (Int.le_refl _), within_le id (Nat.and_self m) (Int.le_refl _) (Int.le_refl _)]
      simp
    · rw [if_pos (by simpa using hy)]
  · rw [if_neg (by simp [r1]), curtilagelaw02_CapLess.j0]; simp
end Go.Proofs.YtafpkpalkaphkaaDoor.Pure
