/- What functions of the program, and of its laws, give, each proved of its code by a walk; no condition. -/
import Derived.Test.YtoakeildgpeffaaKPlanWholePx0
import Derived.Test.YtoakeildgpeffaaKPlanWholePx11
namespace Go.Proofs.Ytoakeildgpeffaa.P
open Go.RowKit Go.Proofs.YtoakeildgpeffaaW.PrintWords Go.Proofs.YtoakeildgpeffaaW.PrintLast Go.Proofs.YtoakeildgpeffaaW.PrintMore
attribute [local go_sem] max2_int min2_int max_two min_two max_three min_three max_four min_four   -- for this text's walks alone
set_option linter.unusedVariables false
set_option linter.unusedSimpArgs false

def curtilageref14_Bind.j0 : Nat → List (S39) → List Int → Int → Int → Bool → ByteArray → ByteArray → Int → Int → Int → Int → Int → Bool → Option (Int × Int × Int)
  | 0, _, _, _, _, _, _, _, _, _, _, _, _, _ => none
  | k + 1, x0, x1, x2, x3, x34, x179000, x179001, x179002, x179003, x179004, x179005, x179006, x179007 => if x34 = true then (some (x2, x3, 0)) else ((curtilageref14_In.f k x0 x1 x179000 x179001).bind fun bt179 => (if bt179.1 ≥ 0 then (some (bt179.1, bt179.2, 0)) else (if x179007 = true then (some (x2, x3, 0)) else (if x179005 = 3 then (some ((-1), (-1), 0)) else ((curtilageref14_Known.f k x0 x1 x179000).bind fun t181 => (if x179001.toList = ([] : List UInt8) then (some (0, 0, 140)) else (if t181 = true then (some (0, 0, 141)) else (some (0, 0, 140)))))))))
def curtilageref14_Bind.f (k : Nat) (l0 : List (S39)) (l1 : List Int) (a2 : Int) (a3 : Int) : Option (Int × Int × Int) := if 0 ≤ a2 then (if a2 < (l0.length : Int) then (if 0 ≤ a3 then (if a3 < (((rd_T39 l0 a2).f3).length : Int) then (if (rd_T42 ((rd_T39 l0 a2).f3) a3).f7 = true then (if ((rd_T42 ((rd_T39 l0 a2).f3) a3).f5) = 1 then (curtilageref14_Bind.j0 k l0 l1 a2 a3 true ((rd_T42 ((rd_T39 l0 a2).f3) a3).f0) ((rd_T42 ((rd_T39 l0 a2).f3) a3).f1) ((rd_T42 ((rd_T39 l0 a2).f3) a3).f2) ((rd_T42 ((rd_T39 l0 a2).f3) a3).f3) ((rd_T42 ((rd_T39 l0 a2).f3) a3).f4) ((rd_T42 ((rd_T39 l0 a2).f3) a3).f5) ((rd_T42 ((rd_T39 l0 a2).f3) a3).f6) ((rd_T42 ((rd_T39 l0 a2).f3) a3).f7)) else (curtilageref14_Bind.j0 k l0 l1 a2 a3 (((rd_T42 ((rd_T39 l0 a2).f3) a3).f6) == 2) ((rd_T42 ((rd_T39 l0 a2).f3) a3).f0) ((rd_T42 ((rd_T39 l0 a2).f3) a3).f1) ((rd_T42 ((rd_T39 l0 a2).f3) a3).f2) ((rd_T42 ((rd_T39 l0 a2).f3) a3).f3) ((rd_T42 ((rd_T39 l0 a2).f3) a3).f4) ((rd_T42 ((rd_T39 l0 a2).f3) a3).f5) ((rd_T42 ((rd_T39 l0 a2).f3) a3).f6) ((rd_T42 ((rd_T39 l0 a2).f3) a3).f7))) else (curtilageref14_Bind.j0 k l0 l1 a2 a3 false ((rd_T42 ((rd_T39 l0 a2).f3) a3).f0) ((rd_T42 ((rd_T39 l0 a2).f3) a3).f1) ((rd_T42 ((rd_T39 l0 a2).f3) a3).f2) ((rd_T42 ((rd_T39 l0 a2).f3) a3).f3) ((rd_T42 ((rd_T39 l0 a2).f3) a3).f4) ((rd_T42 ((rd_T39 l0 a2).f3) a3).f5) ((rd_T42 ((rd_T39 l0 a2).f3) a3).f6) ((rd_T42 ((rd_T39 l0 a2).f3) a3).f7))) else (none)) else (none)) else (none)) else (none)
theorem curtilageref14_Bind.mono_l : ∀ k, (∀ y0 y1 y2 y3 y4 y5 y6 y7 y8 y9 y10 y11 y12, LeO (curtilageref14_Bind.j0 k y0 y1 y2 y3 y4 y5 y6 y7 y8 y9 y10 y11 y12) (curtilageref14_Bind.j0 (k + 1) y0 y1 y2 y3 y4 y5 y6 y7 y8 y9 y10 y11 y12))
  | 0 => fun _ _ _ _ _ _ _ _ _ _ _ _ _ r h => by simp [curtilageref14_Bind.j0] at h
  | k + 1 => by
    have ih0 := curtilageref14_Bind.mono_l k
    · intro y0 y1 y2 y3 y4 y5 y6 y7 y8 y9 y10 y11 y12
      unfold curtilageref14_Bind.j0
      repeat' first
      | (with_reducible exact ih0 _ _ _ _ _ _ _ _ _ _ _ _ _)
      | (with_reducible exact curtilageref14_In.mono _ _ _ _ _)
      | (with_reducible exact curtilageref14_Known.mono _ _ _ _)
      | (with_reducible exact LeO.refl _)
      | (with_reducible exact LeO.none _)
      | (with_reducible refine LeO.ite ?_ ?_)
      | (with_reducible refine LeO.bind ?_ (fun _ => ?_))
      | exact ih0 _ _ _ _ _ _ _ _ _ _ _ _ _
      | exact curtilageref14_In.mono _ _ _ _ _
      | exact curtilageref14_Known.mono _ _ _ _
      | exact LeO.none _
      | refine LeO.ite ?_ ?_
      | refine LeO.bind ?_ (fun _ => ?_)
theorem curtilageref14_Bind.mono : ∀ a0 a1 a2 a3 k, LeO (curtilageref14_Bind.f k a0 a1 a2 a3) (curtilageref14_Bind.f (k + 1) a0 a1 a2 a3) := by
  intro a0 a1 a2 a3 k
  have ih0 := curtilageref14_Bind.mono_l k
  unfold curtilageref14_Bind.f
  repeat' first
      | (with_reducible exact ih0 _ _ _ _ _ _ _ _ _ _ _ _ _)
      | (with_reducible exact curtilageref14_In.mono _ _ _ _ _)
      | (with_reducible exact curtilageref14_Known.mono _ _ _ _)
      | (with_reducible exact LeO.refl _)
      | (with_reducible exact LeO.none _)
      | (with_reducible refine LeO.ite ?_ ?_)
      | (with_reducible refine LeO.bind ?_ (fun _ => ?_))
      | exact ih0 _ _ _ _ _ _ _ _ _ _ _ _ _
      | exact curtilageref14_In.mono _ _ _ _ _
      | exact curtilageref14_Known.mono _ _ _ _
      | exact LeO.none _
      | refine LeO.ite ?_ ?_
      | refine LeO.bind ?_ (fun _ => ?_)
end Go.Proofs.Ytoakeildgpeffaa.P
