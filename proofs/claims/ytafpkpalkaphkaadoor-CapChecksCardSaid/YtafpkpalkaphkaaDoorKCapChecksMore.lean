/- What capabilities' functions give, in plain words, for chapter 2: what is made of one. No condition. -/
import Derived.Test.YtafpkpalkaphkaaDoorKCapChecksBase
import Derived.Test.YtafpkpalkaphkaaDoorKCapChecksPx11
import Derived.Test.YtafpkpalkaphkaaDoorKCapChecksPx13
namespace Go.Proofs.YtafpkpalkaphkaaDoor.Pure
open Go.RowKit Go.Proofs.YtafpkpalkaphkaaDoor.P Go.Proofs.YtafpkpalkaphkaaDoorW.PrintWords Go.Proofs.YtafpkpalkaphkaaDoorW.PrintLast
set_option linter.unusedVariables false
set_option linter.unusedSimpArgs false

theorem inside_is (b t a p y : Int) (g : Bool) (n : Int) (ha : 0 ≤ a ∧ a ≤ 18446744073709551615) (ht : 0 ≤ t ∧ t ≤ 18446744073709551615) (hn : 0 ≤ n ∧ n ≤ 18446744073709551615) :
    curtilageref02_Inside.f b t a p y g n = some (decide (b ≤ a ∧ a + n ≤ t)) := by
  unfold curtilageref02_Inside.f
  rw [wrapu_mod]
  by_cases h1 : a < b
  · rw [if_pos h1]; congr 1; symm; apply decide_eq_false; omega
  · by_cases h2 : a > t
    · rw [if_neg h1, if_pos h2]; congr 1; symm; apply decide_eq_false; omega
    · rw [if_neg h1, if_neg h2]; congr 1; apply decide_eq_decide.2; omega
def withinB (b t : Int) (p : Nat) (y : Int) (g : Bool) (b' t' : Int) (p' : Nat) (y' : Int) (g' : Bool) : Bool := !g || (g' && decide (y = y') && decide (p &&& p' = p) && (decide (t ≤ b) || (decide (b' ≤ b) && decide (t ≤ t'))))
theorem within_is (b t a : Int) (p : Nat) (y : Int) (g : Bool) (b' t' a' : Int) (p' : Nat) (y' : Int) (g' : Bool) (hp : p < 256) (hp' : p' < 256) :
    cap_Within.f b t a (p : Int) y g b' t' a' (p' : Int) y' g' = some (withinB b t p y g b' t' p' y' g') := by
  unfold cap_Within.f withinB
  have hn := andNot64 p p' hp hp'
  cases g
  · simp
  · cases g'
    · simp
    · by_cases hy : y = y'
      · by_cases hq : p &&& p' = p
        · by_cases h1 : b ≥ t
          · have h1' : t ≤ b := h1
            simp [hy, hn.2 hq, hq, h1']
          · have h1' : ¬ t ≤ b := h1
            by_cases h2 : b ≥ b'
            · have h2' : b' ≤ b := h2
              simp [hy, hn.2 hq, hq, h1', h2']
            · have h2' : ¬ b' ≤ b := h2
              simp [hy, hn.2 hq, hq, h1', h2']
        · have : ¬ Go.bits .andNot .i64 (p : Int) (p' : Int) = 0 := fun h => hq (hn.1 h)
          simp [hy, this, hq]
      · simp [hy]
theorem rwithin_is (k : Nat) (b t a : Int) (p : Nat) (y : Int) (g : Bool) (b' t' a' : Int) (p' : Nat) (y' : Int) (g' : Bool) (hp : p < 256) (hp' : p' < 256) :
    curtilageref02_Within.f (k + 9) b t a (p : Int) y g b' t' a' (p' : Int) y' g' = some (withinB b t p y g b' t' p' y' g') := by
  unfold curtilageref02_Within.f withinB
  rw [both_is k p p' hp hp']
  cases g
  · simp
  · cases g'
    · simp
    · by_cases hy : y = y'
      · by_cases hq : p &&& p' = p
        · have hq' : ((p &&& p' : Nat) : Int) = (p : Int) := by omega
          by_cases h1 : b ≥ t
          · have h1' : t ≤ b := h1
            simp [hy, hq, h1']
          · have h1' : ¬ t ≤ b := h1
            by_cases h2 : b' ≤ b
            · simp [hy, hq, h1', h2]
            · simp [hy, hq, h1', h2]
        · have : ¬ ((p &&& p' : Nat) : Int) = (p : Int) := by omega
          simp [hy, this, hq]
      · simp [hy]
theorem rcheck_is (b t a : Int) (p : Nat) (y : Int) (g : Bool) (n q : Int) (hp : p < 256) (ha : 0 ≤ a ∧ a ≤ 18446744073709551615) (ht : 0 ≤ t ∧ t ≤ 18446744073709551615) (hn : 0 ≤ n ∧ n ≤ 18446744073709551615) (hy : -1 ≤ y) :
    curtilageref02_Check.f b t a (p : Int) y g n q = some (if g = true then (if y < 0 then (if ((p &&& low q : Nat) : Int) = q then (if b ≤ a ∧ a + n ≤ t then 0 else 23) else 22) else 21) else 20) := by
  unfold curtilageref02_Check.f
  rw [and64_any p q hp, inside_is b t a p y g n ha ht hn]
  cases g
  · simp
  · by_cases h : y = -1
    · have h2 : y < 0 := by omega
      by_cases hq : ((p &&& low q : Nat) : Int) = q
      · by_cases hf : b ≤ a ∧ a + n ≤ t <;> simp [h, hq, hf]
      · simp [h, hq]
    · have h2 : ¬ y < 0 := by omega
      simp [h, h2]
end Go.Proofs.YtafpkpalkaphkaaDoor.Pure
