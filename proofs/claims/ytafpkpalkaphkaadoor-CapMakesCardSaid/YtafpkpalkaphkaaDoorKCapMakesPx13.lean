/- What functions of the program, and of its laws, give, each proved of its code by a walk; no condition. -/
import Derived.Test.YtafpkpalkaphkaaDoorKCapMakesPx0
import Derived.Test.YtafpkpalkaphkaaDoorKCapMakesPx9
import Derived.Test.YtafpkpalkaphkaaDoorKCapMakesPx10
namespace Go.Proofs.YtafpkpalkaphkaaDoor.P
open Go.RowKit Go.Proofs.YtafpkpalkaphkaaDoorW.PrintWords Go.Proofs.YtafpkpalkaphkaaDoorW.PrintLast Go.Proofs.YtafpkpalkaphkaaDoorW.PrintMore
attribute [local go_sem] max2_int min2_int max_two min_two max_three min_three max_four min_four   -- for this text's walks alone
set_option linter.unusedVariables false
set_option linter.unusedSimpArgs false

def cap_Within.f (a0_0 : Int) (a0_1 : Int) (a0_2 : Int) (a0_3 : Int) (a0_4 : Int) (a0_5 : Bool) (a1_0 : Int) (a1_1 : Int) (a1_2 : Int) (a1_3 : Int) (a1_4 : Int) (a1_5 : Bool) : Option (Bool) := if a0_5 = true then (if a1_5 = true then (if a0_4 = a1_4 then (if (Go.bits .andNot .i64 a0_3 a1_3) = 0 then (if a0_0 ≥ a0_1 then (some true) else (if a0_0 ≥ a1_0 then (some (decide (a0_1 ≤ a1_1))) else (some false))) else (some false)) else (some false)) else (some false)) else (some true)
def curtilageref02_Check.f (a0_0 : Int) (a0_1 : Int) (a0_2 : Int) (a0_3 : Int) (a0_4 : Int) (a0_5 : Bool) (a1 : Int) (a2 : Int) : Option (Int) := if a0_5 = true then (if a0_4 = (-1) then (if (Go.bits .and .i64 a0_3 a2) = a2 then ((curtilageref02_Inside.f a0_0 a0_1 a0_2 a0_3 a0_4 a0_5 a1).bind fun t569 => (if t569 = true then (some 0) else (some 23))) else (some 22)) else (some 21)) else (some 20)
def curtilageref02_Within.f (k : Nat) (a0_0 : Int) (a0_1 : Int) (a0_2 : Int) (a0_3 : Int) (a0_4 : Int) (a0_5 : Bool) (a1_0 : Int) (a1_1 : Int) (a1_2 : Int) (a1_3 : Int) (a1_4 : Int) (a1_5 : Bool) : Option (Bool) := if a0_5 = true then (if a1_5 = true then (if a0_4 = a1_4 then ((curtilageref02_both.f k a0_3 a1_3).bind fun t572 => (if t572 = a0_3 then (if a0_0 ≥ a0_1 then (some true) else (if a1_0 ≤ a0_0 then (some (decide (a0_1 ≤ a1_1))) else (some false))) else (some false))) else (some false)) else (some false)) else (some true)
theorem curtilageref02_Within.mono : ∀ a0 a1 a2 a3 a4 a5 a6 a7 a8 a9 a10 a11 k, LeO (curtilageref02_Within.f k a0 a1 a2 a3 a4 a5 a6 a7 a8 a9 a10 a11) (curtilageref02_Within.f (k + 1) a0 a1 a2 a3 a4 a5 a6 a7 a8 a9 a10 a11) := by
  intro a0 a1 a2 a3 a4 a5 a6 a7 a8 a9 a10 a11 k
  unfold curtilageref02_Within.f
  repeat' first
      | (with_reducible exact curtilageref02_both.mono _ _ _)
      | (with_reducible exact LeO.refl _)
      | (with_reducible exact LeO.none _)
      | (with_reducible refine LeO.ite ?_ ?_)
      | (with_reducible refine LeO.bind ?_ (fun _ => ?_))
      | exact curtilageref02_both.mono _ _ _
      | exact LeO.none _
      | refine LeO.ite ?_ ?_
      | refine LeO.bind ?_ (fun _ => ?_)
def curtilageref02_number.f : Nat → Int → Option (ByteArray)
  | 0, _ => none
  | k + 1, a0 => if a0 < 10 then (some (strOfNums (([(IntKind.u64.wrap (48 + a0)) % 256] : List Int)))) else ((curtilageref02_number.f k (IntKind.u64.wrap (Int.tdiv a0 10))).bind fun t576 => ((curtilageref02_number.f k (Int.tmod a0 10)).bind fun t577 => (if t576.size + t577.size ≤ 9223372036854775807 then (some (t576 ++ t577)) else (none))))
theorem curtilageref02_number.mono_l : ∀ k, (∀ y0, LeO (curtilageref02_number.f k y0) (curtilageref02_number.f (k + 1) y0))
  | 0 => fun _ r h => by simp [curtilageref02_number.f] at h
  | k + 1 => by
    have ih0 := curtilageref02_number.mono_l k
    · intro y0
      unfold curtilageref02_number.f
      repeat' first
      | (with_reducible exact ih0 _)
      | (with_reducible exact LeO.refl _)
      | (with_reducible exact LeO.none _)
      | (with_reducible refine LeO.ite ?_ ?_)
      | (with_reducible refine LeO.bind ?_ (fun _ => ?_))
      | exact ih0 _
      | exact LeO.none _
      | refine LeO.ite ?_ ?_
      | refine LeO.bind ?_ (fun _ => ?_)
theorem curtilageref02_number.mono : ∀ a0 k, LeO (curtilageref02_number.f k a0) (curtilageref02_number.f (k + 1) a0) := by
  intro a0 k
  have ih0 := curtilageref02_number.mono_l k
  exact ih0 a0
end Go.Proofs.YtafpkpalkaphkaaDoor.P
