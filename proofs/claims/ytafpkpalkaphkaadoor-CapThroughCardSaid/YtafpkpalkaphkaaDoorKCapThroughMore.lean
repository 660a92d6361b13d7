/- What capabilities' functions give, in plain words, for chapter 2: what is made of one. No condition. -/
import Derived.Test.YtafpkpalkaphkaaDoorKCapThroughBase
import Derived.Test.YtafpkpalkaphkaaDoorKCapThroughPx11
import Derived.Test.YtafpkpalkaphkaaDoorKCapThroughPx13
namespace Go.Proofs.YtafpkpalkaphkaaDoor.Pure
open Go.RowKit Go.Proofs.YtafpkpalkaphkaaDoor.P Go.Proofs.YtafpkpalkaphkaaDoorW.PrintWords Go.Proofs.YtafpkpalkaphkaaDoorW.PrintLast
set_option linter.unusedVariables false
set_option linter.unusedSimpArgs false

def withinB (b t : Int) (p : Nat) (y : Int) (g : Bool) (b' t' : Int) (p' : Nat) (y' : Int) (g' : Bool) : Bool := !g || (g' && decide (y = y') && decide (p &&& p' = p) && (decide (t ≤ b) || (decide (b' ≤ b) && decide (t ≤ t'))))
theorem within_is (b t a : Int) (p : Nat) (y : Int) (g : Bool) (b' t' a' : Int) (p' : Nat) (y' : Int) (g' : Bool) (hp : p < 256) (hp' : p' < 256) :
    cap_Within.f b t a (p : Int) y g b' t' a' (p' : Int) y' g' = some (withinB b t p y g b' t' p' y' g') := by
  unfold cap_Within.f withinB
  have hn := andNot64 p p' hp hp'
  cases g
  · simp
  · cases g'
    · simp
    · by_cases hy : y = y'
      · by_cases hq : p &&& p' = p
        · by_cases h1 : b ≥ t
          · have h1' : t ≤ b := h1
            simp [hy, hn.2 hq, hq, h1']
          · have h1' : ¬ t ≤ b := h1
            by_cases h2 : b ≥ b'
            · have h2' : b' ≤ b := h2
              simp [hy, hn.2 hq, hq, h1', h2']
            · have h2' : ¬ b' ≤ b := h2
              simp [hy, hn.2 hq, hq, h1', h2']
        · have : ¬ Go.bits .andNot .i64 (p : Int) (p' : Int) = 0 := fun h => hq (hn.1 h)
          simp [hy, this, hq]
      · simp [hy]
end Go.Proofs.YtafpkpalkaphkaaDoor.Pure
