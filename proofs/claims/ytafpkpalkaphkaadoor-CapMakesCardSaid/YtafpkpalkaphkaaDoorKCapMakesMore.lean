/- What capabilities' functions give, in plain words, for chapter 2: what is made of one. No condition. -/
import Derived.Test.YtafpkpalkaphkaaDoorKCapMakesBase
import Derived.Test.YtafpkpalkaphkaaDoorKCapMakesPx11
import Derived.Test.YtafpkpalkaphkaaDoorKCapMakesPx13
namespace Go.Proofs.YtafpkpalkaphkaaDoor.Pure
open Go.RowKit Go.Proofs.YtafpkpalkaphkaaDoor.P Go.Proofs.YtafpkpalkaphkaaDoorW.PrintWords Go.Proofs.YtafpkpalkaphkaaDoorW.PrintLast
set_option linter.unusedVariables false
set_option linter.unusedSimpArgs false

theorem and_is (b t a : Int) (p : Nat) (y : Int) (g : Bool) (q : Int) (hp : p < 256) : cap_And.f b t a (p : Int) y g q = some (b, t, a, ((p &&& low q : Nat) : Int), y, g && !decide (y ≥ 0)) := by
  unfold cap_And.f; rw [and64_any p q hp, open_is]; rfl
theorem rmove_is (b t a p y : Int) (g : Bool) (a1 : Int) (hy : -1 ≤ y) : curtilageref02_Move.f b t a p y g a1 = some (b, t, a1, p, y, g && !decide (y ≥ 0)) := by
  unfold curtilageref02_Move.f
  cases g
  · simp
  · by_cases h : y ≥ 0
    · have : ¬ y = -1 := by omega
      simp [h, this]
    · have : y = -1 := by omega
      simp [this]
theorem inside_is (b t a p y : Int) (g : Bool) (n : Int) (ha : 0 ≤ a ∧ a ≤ 18446744073709551615) (ht : 0 ≤ t ∧ t ≤ 18446744073709551615) (hn : 0 ≤ n ∧ n ≤ 18446744073709551615) :
    curtilageref02_Inside.f b t a p y g n = some (decide (b ≤ a ∧ a + n ≤ t)) := by
  unfold curtilageref02_Inside.f
  rw [wrapu_mod]
  by_cases h1 : a < b
  · rw [if_pos h1]; congr 1; symm; apply decide_eq_false; omega
  · by_cases h2 : a > t
    · rw [if_neg h1, if_pos h2]; congr 1; symm; apply decide_eq_false; omega
    · rw [if_neg h1, if_neg h2]; congr 1; apply decide_eq_decide.2; omega
theorem rbound_is (b t a p y : Int) (g : Bool) (n : Int) (ha : 0 ≤ a ∧ a ≤ 18446744073709551615) (ht : 0 ≤ t ∧ t ≤ 18446744073709551615) (hn : 0 ≤ n ∧ n ≤ 18446744073709551615) (hy : -1 ≤ y) :
    curtilageref02_Bound.f b t a p y g n = some (if g = true ∧ y < 0 ∧ b ≤ a ∧ a + n ≤ t then (a, a + n, a, p, -1, true) else (b, t, a, p, y, false)) := by
  unfold curtilageref02_Bound.f
  rw [inside_is b t a p y g n ha ht hn, rclear_is]
  cases g
  · simp
  · by_cases h : y = -1
    · have h2 : y < 0 := by omega
      by_cases hf : b ≤ a ∧ a + n ≤ t
      · have e : IntKind.u64.wrap (a + n) = a + n := wrapu_in (by omega) (by omega)
        simp [h, hf, e]
      · simp [h, hf]
    · have h2 : ¬ y < 0 := by omega
      simp [h, h2]
theorem low_lt (q : Int) : low q < 256 := by unfold low; omega
theorem and255 (q : Int) : Go.bits .and .i64 q 255 = ((low q : Nat) : Int) := by
  have h := and64_any 255 q (by omega)
  have e : Go.bits .and .i64 q 255 = Go.bits .and .i64 ((255 : Nat) : Int) q := by
    unfold Go.bits
    show IntKind.i64.wrap _ = IntKind.i64.wrap _
    show IntKind.i64.wrap ((BitVec.ofInt 64 q &&& BitVec.ofInt 64 255).toNat : Int) = IntKind.i64.wrap ((BitVec.ofInt 64 ((255 : Nat) : Int) &&& BitVec.ofInt 64 q).toNat : Int)
    rw [BitVec.and_comm]; rfl
  have e2 : 255 &&& low q = low q := by
    rw [Nat.and_comm, show (255 : Nat) = 2 ^ 8 - 1 from rfl, Nat.and_two_pow_sub_one_eq_mod]
    exact Nat.mod_eq_of_lt (low_lt q)
  rw [e, h, e2]
theorem rand_is (k : Nat) (b t a : Int) (p : Nat) (y : Int) (g : Bool) (q : Int) (hp : p < 256) (hy : -1 ≤ y) : curtilageref02_And.f (k + 9) b t a (p : Int) y g q = some (b, t, a, ((p &&& low q : Nat) : Int), y, g && !decide (y ≥ 0)) := by
  unfold curtilageref02_And.f
  rw [and255, both_is k p (low q) hp (low_lt q)]
  cases g
  · simp
  · by_cases h : y ≥ 0
    · have : ¬ y = -1 := by omega
      simp [h, this]
    · have : y = -1 := by omega
      simp [this]
end Go.Proofs.YtafpkpalkaphkaaDoor.Pure
