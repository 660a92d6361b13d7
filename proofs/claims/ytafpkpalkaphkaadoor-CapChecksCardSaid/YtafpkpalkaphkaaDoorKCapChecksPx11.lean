/- What functions of the program, and of its laws, give, each proved of its code by a walk; no condition. -/
import Derived.Test.YtafpkpalkaphkaaDoorKCapChecksPx0
import Derived.Test.YtafpkpalkaphkaaDoorKCapChecksPx9
namespace Go.Proofs.YtafpkpalkaphkaaDoor.P
open Go.RowKit Go.Proofs.YtafpkpalkaphkaaDoorW.PrintWords Go.Proofs.YtafpkpalkaphkaaDoorW.PrintLast Go.Proofs.YtafpkpalkaphkaaDoorW.PrintMore
attribute [local go_sem] max2_int min2_int max_two min_two max_three min_three max_four min_four   -- for this text's walks alone
set_option linter.unusedVariables false
set_option linter.unusedSimpArgs false

def curtilageref02_And.f (k : Nat) (a0_0 : Int) (a0_1 : Int) (a0_2 : Int) (a0_3 : Int) (a0_4 : Int) (a0_5 : Bool) (a1 : Int) : Option (Int × Int × Int × Int × Int × Bool) := (curtilageref02_both.f k a0_3 (Go.bits .and .i64 a1 255)).bind fun t471 => (if a0_5 = true then (some (a0_0, a0_1, a0_2, t471, a0_4, (a0_4 == (-1)))) else (some (a0_0, a0_1, a0_2, t471, a0_4, false)))
theorem curtilageref02_And.mono : ∀ a0 a1 a2 a3 a4 a5 a6 k, LeO (curtilageref02_And.f k a0 a1 a2 a3 a4 a5 a6) (curtilageref02_And.f (k + 1) a0 a1 a2 a3 a4 a5 a6) := by
  intro a0 a1 a2 a3 a4 a5 a6 k
  unfold curtilageref02_And.f
  repeat' first
      | (with_reducible exact curtilageref02_both.mono _ _ _)
      | (with_reducible exact LeO.refl _)
      | (with_reducible exact LeO.none _)
      | (with_reducible refine LeO.ite ?_ ?_)
      | (with_reducible refine LeO.bind ?_ (fun _ => ?_))
      | exact curtilageref02_both.mono _ _ _
      | exact LeO.none _
      | refine LeO.ite ?_ ?_
      | refine LeO.bind ?_ (fun _ => ?_)
end Go.Proofs.YtafpkpalkaphkaaDoor.P
