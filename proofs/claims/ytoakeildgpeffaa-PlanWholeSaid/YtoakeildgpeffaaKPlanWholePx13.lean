/- What functions of the program, and of its laws, give, each proved of its code by a walk; no condition. -/
import Derived.Test.YtoakeildgpeffaaKPlanWholePx0
import Derived.Test.YtoakeildgpeffaaKPlanWholePx12
namespace Go.Proofs.Ytoakeildgpeffaa.P
open Go.RowKit Go.Proofs.YtoakeildgpeffaaW.PrintWords Go.Proofs.YtoakeildgpeffaaW.PrintLast Go.Proofs.YtoakeildgpeffaaW.PrintMore
attribute [local go_sem] max2_int min2_int max_two min_two max_three min_three max_four min_four   -- for this text's walks alone
set_option linter.unusedVariables false
set_option linter.unusedSimpArgs false

mutual
def curtilageref15_Link.l0 : Nat → List (S39) → List Int → List Int → List (S28) → Int → Option ((List (S28)) × Int × Int × Int × Int × Int)
  | 0, _, _, _, _, _ => none
  | k + 1, x0, x1, x2, x9, x10 => if x10 < (x2.length : Int) then (if 0 ≤ x10 then (if 0 ≤ (rd x2 x10) then (if (rd x2 x10) < (x0.length : Int) then (curtilageref15_Link.l1 k x0 x1 x2 x9 x10 ((rd_T39 x0 (rd x2 x10)).f4) 0) else (none)) else (none)) else (none)) else (some (x9, 0, 0, 0, 0, 0))
def curtilageref15_Link.l1 : Nat → List (S39) → List Int → List Int → List (S28) → Int → List (S44) → Int → Option ((List (S28)) × Int × Int × Int × Int × Int)
  | 0, _, _, _, _, _, _, _ => none
  | k + 1, x0, x1, x2, x9, x10, x11, x12 => if x12 < (x11.length : Int) then (if 0 ≤ x10 then (if x10 < (x2.length : Int) then (if 0 ≤ x12 then ((curtilageref14_Bind.f k x0 x1 (rd x2 x10) ((rd_T44 x11 x12).f1)).bind fun bt187 => (if bt187.2.2 = 0 then (if x9.length < 4398046511104 then (curtilageref15_Link.l1 k x0 x1 x2 (x9 ++ [(⟨rd x2 x10, x12, bt187.1, bt187.2.1⟩ : S28)]) x10 x11 (wrap64 (x12 + 1))) else (none)) else (some (([] : List (S28)), rd x2 x10, x12, 0, 0, bt187.2.2)))) else (none)) else (none)) else (none)) else (curtilageref15_Link.l0 k x0 x1 x2 x9 (wrap64 (x10 + 1)))
end
def curtilageref15_Link.f (k : Nat) (l0 : List (S39)) (l1 : List Int) (l2 : List Int) : Option ((List (S28)) × Int × Int × Int × Int × Int) := curtilageref15_Link.l0 k l0 l1 l2 ([] : List (S28)) 0
theorem curtilageref15_Link.mono_l : ∀ k, (∀ y0 y1 y2 y3 y4, LeO (curtilageref15_Link.l0 k y0 y1 y2 y3 y4) (curtilageref15_Link.l0 (k + 1) y0 y1 y2 y3 y4)) ∧ (∀ y0 y1 y2 y3 y4 y5 y6, LeO (curtilageref15_Link.l1 k y0 y1 y2 y3 y4 y5 y6) (curtilageref15_Link.l1 (k + 1) y0 y1 y2 y3 y4 y5 y6))
  | 0 => ⟨fun _ _ _ _ _ r h => by simp [curtilageref15_Link.l0] at h, fun _ _ _ _ _ _ _ r h => by simp [curtilageref15_Link.l1] at h⟩
  | k + 1 => by
    obtain ⟨ih0, ih1⟩ := curtilageref15_Link.mono_l k
    refine ⟨?_, ?_⟩
    · intro y0 y1 y2 y3 y4
      unfold curtilageref15_Link.l0
      repeat' first
      | (with_reducible exact ih0 _ _ _ _ _)
      | (with_reducible exact ih1 _ _ _ _ _ _ _)
      | (with_reducible exact curtilageref14_Bind.mono _ _ _ _ _)
      | (with_reducible exact LeO.refl _)
      | (with_reducible exact LeO.none _)
      | (with_reducible refine LeO.ite ?_ ?_)
      | (with_reducible refine LeO.bind ?_ (fun _ => ?_))
      | exact ih0 _ _ _ _ _
      | exact ih1 _ _ _ _ _ _ _
      | exact curtilageref14_Bind.mono _ _ _ _ _
      | exact LeO.none _
      | refine LeO.ite ?_ ?_
      | refine LeO.bind ?_ (fun _ => ?_)
    · intro y0 y1 y2 y3 y4 y5 y6
      unfold curtilageref15_Link.l1
      repeat' first
      | (with_reducible exact ih0 _ _ _ _ _)
      | (with_reducible exact ih1 _ _ _ _ _ _ _)
      | (with_reducible exact curtilageref14_Bind.mono _ _ _ _ _)
      | (with_reducible exact LeO.refl _)
      | (with_reducible exact LeO.none _)
      | (with_reducible refine LeO.ite ?_ ?_)
      | (with_reducible refine LeO.bind ?_ (fun _ => ?_))
      | exact ih0 _ _ _ _ _
      | exact ih1 _ _ _ _ _ _ _
      | exact curtilageref14_Bind.mono _ _ _ _ _
      | exact LeO.none _
      | refine LeO.ite ?_ ?_
      | refine LeO.bind ?_ (fun _ => ?_)
theorem curtilageref15_Link.mono : ∀ a0 a1 a2 k, LeO (curtilageref15_Link.f k a0 a1 a2) (curtilageref15_Link.f (k + 1) a0 a1 a2) := by
  intro a0 a1 a2 k
  obtain ⟨ih0, ih1⟩ := curtilageref15_Link.mono_l k
  unfold curtilageref15_Link.f
  repeat' first
      | (with_reducible exact ih0 _ _ _ _ _)
      | (with_reducible exact ih1 _ _ _ _ _ _ _)
      | (with_reducible exact curtilageref14_Bind.mono _ _ _ _ _)
      | (with_reducible exact LeO.refl _)
      | (with_reducible exact LeO.none _)
      | (with_reducible refine LeO.ite ?_ ?_)
      | (with_reducible refine LeO.bind ?_ (fun _ => ?_))
      | exact ih0 _ _ _ _ _
      | exact ih1 _ _ _ _ _ _ _
      | exact curtilageref14_Bind.mono _ _ _ _ _
      | exact LeO.none _
      | refine LeO.ite ?_ ?_
      | refine LeO.bind ?_ (fun _ => ?_)
end Go.Proofs.Ytoakeildgpeffaa.P
