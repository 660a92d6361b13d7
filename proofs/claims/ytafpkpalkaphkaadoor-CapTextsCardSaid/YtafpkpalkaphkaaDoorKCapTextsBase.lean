/- What capabilities' functions give, in plain words, for chapter 2. No condition. -/
import Derived.Test.YtafpkpalkaphkaaDoorKCapTextsPx8
import Derived.Test.YtafpkpalkaphkaaDoorKCapTextsPx9
import Derived.Test.YtafpkpalkaphkaaDoorKCapTextsPOk
import Derived.DataShut
namespace Go.Proofs.YtafpkpalkaphkaaDoor.Pure
open Go.RowKit Go.Proofs.YtafpkpalkaphkaaDoor.P Go.Proofs.YtafpkpalkaphkaaDoorW.PrintWords Go.Proofs.YtafpkpalkaphkaaDoorW.PrintLast
set_option linter.unusedVariables false
set_option linter.unusedSimpArgs false

theorem u64_range {n : Int} (h : (Lit.int .u64 n).wf = true) : 0 ≤ n ∧ n ≤ 18446744073709551615 := by
  have := (Lit.wf_int_iff .u64 n).1 h
  simpa [IntKind.min, IntKind.max, IntKind.signed, IntKind.bits] using this
theorem awake_is : curtilagelaw02_awake.f (60 + 1) = some true := by kernel_rfl
theorem right_is (b t a p y : Int) (g : Bool) : curtilageref02_Right.f b t a p y g = some (decide (0 ≤ p ∧ p ≤ 255 ∧ -1 ≤ y ∧ y ≤ 63)) := by
  unfold curtilageref02_Right.f
  by_cases h1 : p ≥ 0
  · by_cases h2 : p ≤ 255
    · by_cases h3 : y ≥ -1
      · rw [if_pos h1, if_pos h2, if_pos h3]; congr 1; apply decide_eq_decide.2; omega
      · rw [if_pos h1, if_pos h2, if_neg h3]; congr 1; symm; apply decide_eq_false; omega
    · rw [if_pos h1, if_neg h2]; congr 1; symm; apply decide_eq_false; omega
  · rw [if_neg h1]; congr 1; symm; apply decide_eq_false; omega
theorem sealed_is (b t a p y : Int) (g : Bool) : cap_sealed.f b t a p y g = some (decide (y ≥ 0)) := rfl
end Go.Proofs.YtafpkpalkaphkaaDoor.Pure
