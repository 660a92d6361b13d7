/- What functions of the program, and of its laws, give, each proved of its code by a walk; no condition. -/
import Derived.Test.YtoakeildgpeffaaKPlanWholePx0
import Derived.Test.YtoakeildgpeffaaKPlanWholePx1
import Derived.Test.YtoakeildgpeffaaKPlanWholePx6
import Derived.Test.YtoakeildgpeffaaKPlanWholePx8
import Derived.Test.YtoakeildgpeffaaKPlanWholePx11
import Derived.Test.YtoakeildgpeffaaKPlanWholePx13
namespace Go.Proofs.Ytoakeildgpeffaa.P
open Go.RowKit Go.Proofs.YtoakeildgpeffaaW.PrintWords Go.Proofs.YtoakeildgpeffaaW.PrintLast Go.Proofs.YtoakeildgpeffaaW.PrintMore
attribute [local go_sem] max2_int min2_int max_two min_two max_three min_three max_four min_four   -- for this text's walks alone
set_option linter.unusedVariables false
set_option linter.unusedSimpArgs false

attribute [local go_sem high] eqA28
def curtilageref15_Same.l0 : Nat → List (S28) → List (S28) → Int → Option (Bool)
  | 0, _, _, _ => none
  | k + 1, x0, x1, x5 => if x5 < (x0.length : Int) then (if 0 ≤ x5 then (if x5 < (x1.length : Int) then (if (!(((rd_T28 x0 x5).f0) == ((rd_T28 x1 x5).f0)) || (!(((rd_T28 x0 x5).f1) == ((rd_T28 x1 x5).f1)) || (!(((rd_T28 x0 x5).f2) == ((rd_T28 x1 x5).f2)) || (!(((rd_T28 x0 x5).f3) == ((rd_T28 x1 x5).f3)))))) = true then (some false) else (curtilageref15_Same.l0 k x0 x1 (wrap64 (x5 + 1)))) else (none)) else (none)) else (some true)
def curtilageref15_Same.f (k : Nat) (l0 : List (S28)) (l1 : List (S28)) : Option (Bool) := if (l0.length : Int) = (l1.length : Int) then (curtilageref15_Same.l0 k l0 l1 0) else (some false)
theorem curtilageref15_Same.mono_l : ∀ k, (∀ y0 y1 y2, LeO (curtilageref15_Same.l0 k y0 y1 y2) (curtilageref15_Same.l0 (k + 1) y0 y1 y2))
  | 0 => fun _ _ _ r h => by simp [curtilageref15_Same.l0] at h
  | k + 1 => by
    have ih0 := curtilageref15_Same.mono_l k
    · intro y0 y1 y2
      unfold curtilageref15_Same.l0
      repeat' first
      | (with_reducible exact ih0 _ _ _)
      | (with_reducible exact LeO.refl _)
      | (with_reducible exact LeO.none _)
      | (with_reducible refine LeO.ite ?_ ?_)
      | (with_reducible refine LeO.bind ?_ (fun _ => ?_))
      | exact ih0 _ _ _
      | exact LeO.none _
      | refine LeO.ite ?_ ?_
      | refine LeO.bind ?_ (fun _ => ?_)
theorem curtilageref15_Same.mono : ∀ a0 a1 k, LeO (curtilageref15_Same.f k a0 a1) (curtilageref15_Same.f (k + 1) a0 a1) := by
  intro a0 a1 k
  have ih0 := curtilageref15_Same.mono_l k
  unfold curtilageref15_Same.f
  repeat' first
      | (with_reducible exact ih0 _ _ _)
      | (with_reducible exact LeO.refl _)
      | (with_reducible exact LeO.none _)
      | (with_reducible refine LeO.ite ?_ ?_)
      | (with_reducible refine LeO.bind ?_ (fun _ => ?_))
      | exact ih0 _ _ _
      | exact LeO.none _
      | refine LeO.ite ?_ ?_
      | refine LeO.bind ?_ (fun _ => ?_)
def curtilagelaw15_PlanLinks.f (k : Nat) (l0 : List (S39)) (l1 : List Int) (l2 : List Int) : Option (Bool) := (curtilagelaw15_awake.f).bind fun t197 => ((curtilagelaw15_right.f k l0 l1 l2).bind fun t198 => (if t198 = true then ((plan_Link.f k l0 l1 l2).bind fun bt199 => ((curtilageref15_Link.f k l0 l1 l2).bind fun bt208 => (if t197 = true then (if bt199.2.2.2.2.2 = bt208.2.2.2.2.2 then (if (bt199.2.1 == bt208.2.1 && (bt199.2.2.1 == bt208.2.2.1 && (bt199.2.2.2.1 == bt208.2.2.2.1 && (bt199.2.2.2.2.1 == bt208.2.2.2.2.1)))) = true then ((curtilageref15_Same.f k bt199.1 bt208.1).bind fun t217 => (some t217)) else (some false)) else (some false)) else (some false)))) else (some t197)))
theorem curtilagelaw15_PlanLinks.mono : ∀ a0 a1 a2 k, LeO (curtilagelaw15_PlanLinks.f k a0 a1 a2) (curtilagelaw15_PlanLinks.f (k + 1) a0 a1 a2) := by
  intro a0 a1 a2 k
  unfold curtilagelaw15_PlanLinks.f
  repeat' first
      | (with_reducible exact curtilagelaw15_right.mono _ _ _ _)
      | (with_reducible exact curtilageref15_Link.mono _ _ _ _)
      | (with_reducible exact curtilageref15_Same.mono _ _ _)
      | (with_reducible exact plan_Link.mono _ _ _ _)
      | (with_reducible exact LeO.refl _)
      | (with_reducible exact LeO.none _)
      | (with_reducible refine LeO.ite ?_ ?_)
      | (with_reducible refine LeO.bind ?_ (fun _ => ?_))
      | exact curtilagelaw15_right.mono _ _ _ _
      | exact curtilageref15_Link.mono _ _ _ _
      | exact curtilageref15_Same.mono _ _ _
      | exact plan_Link.mono _ _ _ _
      | exact LeO.none _
      | refine LeO.ite ?_ ?_
      | refine LeO.bind ?_ (fun _ => ?_)
def curtilagelaw15_PlanBoth.j0 : Nat → List (S39) → List Int → List Int → List Int → Bool → Bool → Option (Bool)
  | 0, _, _, _, _, _, _ => none
  | k + 1, x0, x1, x2, x3, x9, x45 => if x45 = true then (some x9) else ((plan_Link.f k x0 x1 x2).bind fun bt221 => ((plan_Link.f k x0 x1 x3).bind fun bt230 => ((some (([] : List Int) : List Int)).bind fun y239 => (if y239.length + x2.length < 17592186044416 then ((some (y239 ++ x2 : List Int)).bind fun y242 => (if y242.length + x3.length < 17592186044416 then ((plan_Link.f k x0 x1 (y242 ++ x3)).bind fun bt248 => (if bt221.2.2.2.2.2 = 0 then (if bt230.2.2.2.2.2 = 0 then (if x9 = true then (if bt248.2.2.2.2.2 = 0 then ((some (([] : List (S28)) : List (S28))).bind fun y257 => (if y257.length + bt221.1.length < 4398046511104 then ((some (y257 ++ bt221.1 : List (S28))).bind fun y260 => (if y260.length + bt230.1.length < 4398046511104 then ((curtilageref15_Same.f k bt248.1 (y260 ++ bt230.1)).bind fun t266 => (some t266)) else (none))) else (none))) else (some false)) else (some false)) else (if x9 = true then (if bt248.2.2.2.2.2 = bt230.2.2.2.2.2 then (if (bt248.2.1 == bt230.2.1 && (bt248.2.2.1 == bt230.2.2.1 && (bt248.2.2.2.1 == bt230.2.2.2.1 && (bt248.2.2.2.2.1 == bt230.2.2.2.2.1)))) = true then (some ((bt248.1.length : Int) == 0)) else (some false)) else (some false)) else (some false))) else (if x9 = true then (if bt248.2.2.2.2.2 = bt221.2.2.2.2.2 then (if (bt248.2.1 == bt221.2.1 && (bt248.2.2.1 == bt221.2.2.1 && (bt248.2.2.2.1 == bt221.2.2.2.1 && (bt248.2.2.2.2.1 == bt221.2.2.2.2.1)))) = true then (some ((bt248.1.length : Int) == 0)) else (some false)) else (some false)) else (some false)))) else (none))) else (none)))))
def curtilagelaw15_PlanBoth.f (k : Nat) (l0 : List (S39)) (l1 : List Int) (l2 : List Int) (l3 : List Int) : Option (Bool) := (curtilagelaw15_awake.f).bind fun t218 => ((curtilagelaw15_right.f k l0 l1 l2).bind fun t219 => ((curtilagelaw15_right.f k l0 l1 l3).bind fun t220 => (if t219 = true then (if t220 = true then (if (l2.length : Int) > 5 then (curtilagelaw15_PlanBoth.j0 k l0 l1 l2 l3 t218 true) else (curtilagelaw15_PlanBoth.j0 k l0 l1 l2 l3 t218 (decide ((l3.length : Int) > 5)))) else (curtilagelaw15_PlanBoth.j0 k l0 l1 l2 l3 t218 true)) else (curtilagelaw15_PlanBoth.j0 k l0 l1 l2 l3 t218 true))))
theorem curtilagelaw15_PlanBoth.mono_l : ∀ k, (∀ y0 y1 y2 y3 y4 y5, LeO (curtilagelaw15_PlanBoth.j0 k y0 y1 y2 y3 y4 y5) (curtilagelaw15_PlanBoth.j0 (k + 1) y0 y1 y2 y3 y4 y5))
  | 0 => fun _ _ _ _ _ _ r h => by simp [curtilagelaw15_PlanBoth.j0] at h
  | k + 1 => by
    have ih0 := curtilagelaw15_PlanBoth.mono_l k
    · intro y0 y1 y2 y3 y4 y5
      unfold curtilagelaw15_PlanBoth.j0
      repeat' first
      | (with_reducible exact ih0 _ _ _ _ _ _)
      | (with_reducible exact curtilagelaw15_right.mono _ _ _ _)
      | (with_reducible exact curtilageref15_Same.mono _ _ _)
      | (with_reducible exact plan_Link.mono _ _ _ _)
      | (with_reducible exact LeO.refl _)
      | (with_reducible exact LeO.none _)
      | (with_reducible refine LeO.ite ?_ ?_)
      | (with_reducible refine LeO.bind ?_ (fun _ => ?_))
      | exact ih0 _ _ _ _ _ _
      | exact curtilagelaw15_right.mono _ _ _ _
      | exact curtilageref15_Same.mono _ _ _
      | exact plan_Link.mono _ _ _ _
      | exact LeO.none _
      | refine LeO.ite ?_ ?_
      | refine LeO.bind ?_ (fun _ => ?_)
theorem curtilagelaw15_PlanBoth.mono : ∀ a0 a1 a2 a3 k, LeO (curtilagelaw15_PlanBoth.f k a0 a1 a2 a3) (curtilagelaw15_PlanBoth.f (k + 1) a0 a1 a2 a3) := by
  intro a0 a1 a2 a3 k
  have ih0 := curtilagelaw15_PlanBoth.mono_l k
  unfold curtilagelaw15_PlanBoth.f
  repeat' first
      | (with_reducible exact ih0 _ _ _ _ _ _)
      | (with_reducible exact curtilagelaw15_right.mono _ _ _ _)
      | (with_reducible exact curtilageref15_Same.mono _ _ _)
      | (with_reducible exact plan_Link.mono _ _ _ _)
      | (with_reducible exact LeO.refl _)
      | (with_reducible exact LeO.none _)
      | (with_reducible refine LeO.ite ?_ ?_)
      | (with_reducible refine LeO.bind ?_ (fun _ => ?_))
      | exact ih0 _ _ _ _ _ _
      | exact curtilagelaw15_right.mono _ _ _ _
      | exact curtilageref15_Same.mono _ _ _
      | exact plan_Link.mono _ _ _ _
      | exact LeO.none _
      | refine LeO.ite ?_ ?_
      | refine LeO.bind ?_ (fun _ => ?_)
end Go.Proofs.Ytoakeildgpeffaa.P
