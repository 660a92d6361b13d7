/- What functions of the program, and of its laws, give, each proved of its code by a walk; no condition. -/
import Derived.Test.YtoakeildgpeffaaKPlanWholeSkip
import Derived.Test.YtoakeildgpeffaaKPlanWholePx0
import Derived.Test.YtoakeildgpeffaaKPlanWholePx6
import Derived.Test.YtoakeildgpeffaaKPlanWholePx8
import Derived.Test.YtoakeildgpeffaaKPlanWholePx11
import Derived.Test.YtoakeildgpeffaaKPlanWholeSq
import Derived.Test.YtoakeildgpeffaaKPlanWholeUsh
namespace Go.Proofs.Ytoakeildgpeffaa.P
open Go.RowKit Go.Proofs.YtoakeildgpeffaaW.PrintWords Go.Proofs.YtoakeildgpeffaaW.PrintLast Go.Proofs.YtoakeildgpeffaaW.PrintMore
attribute [local go_sem] max2_int min2_int max_two min_two max_three min_three max_four min_four   -- for this text's walks alone
set_option linter.unusedVariables false
set_option linter.unusedSimpArgs false

mutual
def curtilagelaw15_PlanWhole.l0 : Nat → List (S39) → List Int → Bool → List (S28) → Int → Int → Option (Bool)
  | 0, _, _, _, _, _, _ => none
  | k + 1, x0, x2, x7, x9, x12, x13 => if x13 < (x2.length : Int) then (curtilagelaw15_PlanWhole.l1 k x0 x2 x7 x9 x12 x13 0) else (if x7 = true then (some (x12 == (x9.length : Int))) else (some false))
def curtilagelaw15_PlanWhole.l1 : Nat → List (S39) → List Int → Bool → List (S28) → Int → Int → Int → Option (Bool)
  | 0, _, _, _, _, _, _, _ => none
  | k + 1, x0, x2, x7, x9, x12, x13, x14 => if 0 ≤ x13 then (if x13 < (x2.length : Int) then (if 0 ≤ (rd x2 x13) then (if (rd x2 x13) < (x0.length : Int) then (if x14 < (((rd_T39 x0 (rd x2 x13)).f4).length : Int) then (if x12 ≥ (x9.length : Int) then (curtilagelaw15_PlanWhole.j2 k x0 x2 x7 x9 x12 x13 x14 true) else (if 0 ≤ x12 then (if x12 < (x9.length : Int) then (if ((rd_T28 x9 x12).f0) = (rd x2 x13) then (curtilagelaw15_PlanWhole.j2 k x0 x2 x7 x9 x12 x13 x14 (((rd_T28 x9 x12).f1) != x14)) else (curtilagelaw15_PlanWhole.j2 k x0 x2 x7 x9 x12 x13 x14 true)) else (none)) else (none))) else (curtilagelaw15_PlanWhole.l0 k x0 x2 x7 x9 x12 (wrap64 (x13 + 1)))) else (none)) else (none)) else (none)) else (none)
def curtilagelaw15_PlanWhole.j2 : Nat → List (S39) → List Int → Bool → List (S28) → Int → Int → Int → Bool → Option (Bool)
  | 0, _, _, _, _, _, _, _, _ => none
  | k + 1, x0, x2, x7, x9, x12, x13, x14, x111 => if x111 = true then (some false) else (if 0 ≤ x13 then (if x13 < (x2.length : Int) then (if 0 ≤ (rd x2 x13) then (if (rd x2 x13) < (x0.length : Int) then (if 0 ≤ x14 then (if x14 < (((rd_T39 x0 (rd x2 x13)).f4).length : Int) then (if 0 ≤ ((rd_T44 ((rd_T39 x0 (rd x2 x13)).f4) x14).f1) then (if ((rd_T44 ((rd_T39 x0 (rd x2 x13)).f4) x14).f1) < (((rd_T39 x0 (rd x2 x13)).f3).length : Int) then (if 0 ≤ x12 then (if x12 < (x9.length : Int) then (if ((rd_T28 x9 x12).f2) < 0 then (if (rd_T42 ((rd_T39 x0 (rd x2 x13)).f3) ((rd_T44 ((rd_T39 x0 (rd x2 x13)).f4) x14).f1)).f7 = true then (some false) else (if ((rd_T42 ((rd_T39 x0 (rd x2 x13)).f3) ((rd_T44 ((rd_T39 x0 (rd x2 x13)).f4) x14).f1)).f5) = 3 then (curtilagelaw15_PlanWhole.l1 k x0 x2 x7 x9 (wrap64 (x12 + 1)) x13 (wrap64 (x14 + 1))) else (some false))) else (if ((rd_T28 x9 x12).f2) ≥ (x0.length : Int) then (curtilagelaw15_PlanWhole.j3 k x0 x2 x7 x9 x12 x13 x14 true ((rd_T42 ((rd_T39 x0 (rd x2 x13)).f3) ((rd_T44 ((rd_T39 x0 (rd x2 x13)).f4) x14).f1)).f0) ((rd_T42 ((rd_T39 x0 (rd x2 x13)).f3) ((rd_T44 ((rd_T39 x0 (rd x2 x13)).f4) x14).f1)).f1) ((rd_T42 ((rd_T39 x0 (rd x2 x13)).f3) ((rd_T44 ((rd_T39 x0 (rd x2 x13)).f4) x14).f1)).f2) ((rd_T42 ((rd_T39 x0 (rd x2 x13)).f3) ((rd_T44 ((rd_T39 x0 (rd x2 x13)).f4) x14).f1)).f3) ((rd_T42 ((rd_T39 x0 (rd x2 x13)).f3) ((rd_T44 ((rd_T39 x0 (rd x2 x13)).f4) x14).f1)).f4) ((rd_T42 ((rd_T39 x0 (rd x2 x13)).f3) ((rd_T44 ((rd_T39 x0 (rd x2 x13)).f4) x14).f1)).f5) ((rd_T42 ((rd_T39 x0 (rd x2 x13)).f3) ((rd_T44 ((rd_T39 x0 (rd x2 x13)).f4) x14).f1)).f6) ((rd_T42 ((rd_T39 x0 (rd x2 x13)).f3) ((rd_T44 ((rd_T39 x0 (rd x2 x13)).f4) x14).f1)).f7)) else (if ((rd_T28 x9 x12).f3) < 0 then (curtilagelaw15_PlanWhole.j3 k x0 x2 x7 x9 x12 x13 x14 true ((rd_T42 ((rd_T39 x0 (rd x2 x13)).f3) ((rd_T44 ((rd_T39 x0 (rd x2 x13)).f4) x14).f1)).f0) ((rd_T42 ((rd_T39 x0 (rd x2 x13)).f3) ((rd_T44 ((rd_T39 x0 (rd x2 x13)).f4) x14).f1)).f1) ((rd_T42 ((rd_T39 x0 (rd x2 x13)).f3) ((rd_T44 ((rd_T39 x0 (rd x2 x13)).f4) x14).f1)).f2) ((rd_T42 ((rd_T39 x0 (rd x2 x13)).f3) ((rd_T44 ((rd_T39 x0 (rd x2 x13)).f4) x14).f1)).f3) ((rd_T42 ((rd_T39 x0 (rd x2 x13)).f3) ((rd_T44 ((rd_T39 x0 (rd x2 x13)).f4) x14).f1)).f4) ((rd_T42 ((rd_T39 x0 (rd x2 x13)).f3) ((rd_T44 ((rd_T39 x0 (rd x2 x13)).f4) x14).f1)).f5) ((rd_T42 ((rd_T39 x0 (rd x2 x13)).f3) ((rd_T44 ((rd_T39 x0 (rd x2 x13)).f4) x14).f1)).f6) ((rd_T42 ((rd_T39 x0 (rd x2 x13)).f3) ((rd_T44 ((rd_T39 x0 (rd x2 x13)).f4) x14).f1)).f7)) else (if 0 ≤ ((rd_T28 x9 x12).f2) then (if ((rd_T28 x9 x12).f2) < (x0.length : Int) then (curtilagelaw15_PlanWhole.j3 k x0 x2 x7 x9 x12 x13 x14 (decide (((rd_T28 x9 x12).f3) ≥ (((rd_T39 x0 ((rd_T28 x9 x12).f2)).f3).length : Int))) ((rd_T42 ((rd_T39 x0 (rd x2 x13)).f3) ((rd_T44 ((rd_T39 x0 (rd x2 x13)).f4) x14).f1)).f0) ((rd_T42 ((rd_T39 x0 (rd x2 x13)).f3) ((rd_T44 ((rd_T39 x0 (rd x2 x13)).f4) x14).f1)).f1) ((rd_T42 ((rd_T39 x0 (rd x2 x13)).f3) ((rd_T44 ((rd_T39 x0 (rd x2 x13)).f4) x14).f1)).f2) ((rd_T42 ((rd_T39 x0 (rd x2 x13)).f3) ((rd_T44 ((rd_T39 x0 (rd x2 x13)).f4) x14).f1)).f3) ((rd_T42 ((rd_T39 x0 (rd x2 x13)).f3) ((rd_T44 ((rd_T39 x0 (rd x2 x13)).f4) x14).f1)).f4) ((rd_T42 ((rd_T39 x0 (rd x2 x13)).f3) ((rd_T44 ((rd_T39 x0 (rd x2 x13)).f4) x14).f1)).f5) ((rd_T42 ((rd_T39 x0 (rd x2 x13)).f3) ((rd_T44 ((rd_T39 x0 (rd x2 x13)).f4) x14).f1)).f6) ((rd_T42 ((rd_T39 x0 (rd x2 x13)).f3) ((rd_T44 ((rd_T39 x0 (rd x2 x13)).f4) x14).f1)).f7)) else (none)) else (none))))) else (none)) else (none)) else (none)) else (none)) else (none)) else (none)) else (none)) else (none)) else (none)) else (none))
def curtilagelaw15_PlanWhole.j3 : Nat → List (S39) → List Int → Bool → List (S28) → Int → Int → Int → Bool → ByteArray → ByteArray → Int → Int → Int → Int → Int → Bool → Option (Bool)
  | 0, _, _, _, _, _, _, _, _, _, _, _, _, _, _, _, _ => none
  | k + 1, x0, x2, x7, x9, x12, x13, x14, x180, x291000, x291001, x291002, x291003, x291004, x291005, x291006, x291007 => if x180 = true then (some false) else (if 0 ≤ x12 then (if x12 < (x9.length : Int) then (if 0 ≤ ((rd_T28 x9 x12).f2) then (if ((rd_T28 x9 x12).f2) < (x0.length : Int) then (if 0 ≤ ((rd_T28 x9 x12).f3) then (if ((rd_T28 x9 x12).f3) < (((rd_T39 x0 ((rd_T28 x9 x12).f2)).f3).length : Int) then (if ((rd_T42 ((rd_T39 x0 ((rd_T28 x9 x12).f2)).f3) ((rd_T28 x9 x12).f3)).f0).toList = x291000.toList then (if ((rd_T42 ((rd_T39 x0 ((rd_T28 x9 x12).f2)).f3) ((rd_T28 x9 x12).f3)).f7 = true) then (curtilagelaw15_PlanWhole.l1 k x0 x2 x7 x9 (wrap64 (x12 + 1)) x13 (wrap64 (x14 + 1))) else (some false)) else (some false)) else (none)) else (none)) else (none)) else (none)) else (none)) else (none))
end
def curtilagelaw15_PlanWhole.f (k : Nat) (l0 : List (S39)) (l1 : List Int) (l2 : List Int) : Option (Bool) := (curtilagelaw15_awake.f).bind fun t267 => ((curtilagelaw15_right.f k l0 l1 l2).bind fun t268 => (if t268 = true then ((plan_Link.f k l0 l1 l2).bind fun bt269 => (if bt269.2.2.2.2.2 = 0 then (curtilagelaw15_PlanWhole.l0 k l0 l2 t267 bt269.1 0 0) else (if bt269.2.1 < 0 then (some false) else (if bt269.2.1 ≥ (l0.length : Int) then (some false) else (if t267 = true then (if (bt269.1.length : Int) = 0 then (if bt269.2.2.1 ≥ 0 then (if 0 ≤ bt269.2.1 then (if bt269.2.1 < (l0.length : Int) then (some (decide (bt269.2.2.1 < (((rd_T39 l0 bt269.2.1).f4).length : Int)))) else (none)) else (none)) else (some false)) else (some false)) else (some false)))))) else (some t267)))
theorem curtilagelaw15_PlanWhole.mono_l : ∀ k, (∀ y0 y1 y2 y3 y4 y5, LeO (curtilagelaw15_PlanWhole.l0 k y0 y1 y2 y3 y4 y5) (curtilagelaw15_PlanWhole.l0 (k + 1) y0 y1 y2 y3 y4 y5)) ∧ (∀ y0 y1 y2 y3 y4 y5 y6, LeO (curtilagelaw15_PlanWhole.l1 k y0 y1 y2 y3 y4 y5 y6) (curtilagelaw15_PlanWhole.l1 (k + 1) y0 y1 y2 y3 y4 y5 y6)) ∧ (∀ y0 y1 y2 y3 y4 y5 y6 y7, LeO (curtilagelaw15_PlanWhole.j2 k y0 y1 y2 y3 y4 y5 y6 y7) (curtilagelaw15_PlanWhole.j2 (k + 1) y0 y1 y2 y3 y4 y5 y6 y7)) ∧ (∀ y0 y1 y2 y3 y4 y5 y6 y7 y8 y9 y10 y11 y12 y13 y14 y15, LeO (curtilagelaw15_PlanWhole.j3 k y0 y1 y2 y3 y4 y5 y6 y7 y8 y9 y10 y11 y12 y13 y14 y15) (curtilagelaw15_PlanWhole.j3 (k + 1) y0 y1 y2 y3 y4 y5 y6 y7 y8 y9 y10 y11 y12 y13 y14 y15))
  | 0 => ⟨fun _ _ _ _ _ _ r h => by simp [curtilagelaw15_PlanWhole.l0] at h, fun _ _ _ _ _ _ _ r h => by simp [curtilagelaw15_PlanWhole.l1] at h, fun _ _ _ _ _ _ _ _ r h => by simp [curtilagelaw15_PlanWhole.j2] at h, fun _ _ _ _ _ _ _ _ _ _ _ _ _ _ _ _ r h => by simp [curtilagelaw15_PlanWhole.j3] at h⟩
  | k + 1 => by
    obtain ⟨ih0, ih1, ih2, ih3⟩ := curtilagelaw15_PlanWhole.mono_l k
    refine ⟨?_, ?_, ?_, ?_⟩
    · intro y0 y1 y2 y3 y4 y5
      unfold curtilagelaw15_PlanWhole.l0
      repeat' first
      | (with_reducible exact ih0 _ _ _ _ _ _)
      | (with_reducible exact ih1 _ _ _ _ _ _ _)
      | (with_reducible exact ih2 _ _ _ _ _ _ _ _)
      | (with_reducible exact ih3 _ _ _ _ _ _ _ _ _ _ _ _ _ _ _ _)
      | (with_reducible exact curtilagelaw15_right.mono _ _ _ _)
      | (with_reducible exact plan_Link.mono _ _ _ _)
      | (with_reducible exact LeO.refl _)
      | (with_reducible exact LeO.none _)
      | (with_reducible refine LeO.ite ?_ ?_)
      | (with_reducible refine LeO.bind ?_ (fun _ => ?_))
      | exact ih0 _ _ _ _ _ _
      | exact ih1 _ _ _ _ _ _ _
      | exact ih2 _ _ _ _ _ _ _ _
      | exact ih3 _ _ _ _ _ _ _ _ _ _ _ _ _ _ _ _
      | exact curtilagelaw15_right.mono _ _ _ _
      | exact plan_Link.mono _ _ _ _
      | exact LeO.none _
      | refine LeO.ite ?_ ?_
      | refine LeO.bind ?_ (fun _ => ?_)
    · intro y0 y1 y2 y3 y4 y5 y6
      unfold curtilagelaw15_PlanWhole.l1
      repeat' first
      | (with_reducible exact ih0 _ _ _ _ _ _)
      | (with_reducible exact ih1 _ _ _ _ _ _ _)
      | (with_reducible exact ih2 _ _ _ _ _ _ _ _)
      | (with_reducible exact ih3 _ _ _ _ _ _ _ _ _ _ _ _ _ _ _ _)
      | (with_reducible exact curtilagelaw15_right.mono _ _ _ _)
      | (with_reducible exact plan_Link.mono _ _ _ _)
      | (with_reducible exact LeO.refl _)
      | (with_reducible exact LeO.none _)
      | (with_reducible refine LeO.ite ?_ ?_)
      | (with_reducible refine LeO.bind ?_ (fun _ => ?_))
      | exact ih0 _ _ _ _ _ _
      | exact ih1 _ _ _ _ _ _ _
      | exact ih2 _ _ _ _ _ _ _ _
      | exact ih3 _ _ _ _ _ _ _ _ _ _ _ _ _ _ _ _
      | exact curtilagelaw15_right.mono _ _ _ _
      | exact plan_Link.mono _ _ _ _
      | exact LeO.none _
      | refine LeO.ite ?_ ?_
      | refine LeO.bind ?_ (fun _ => ?_)
    · intro y0 y1 y2 y3 y4 y5 y6 y7
      unfold curtilagelaw15_PlanWhole.j2
      repeat' first
      | (with_reducible exact ih0 _ _ _ _ _ _)
      | (with_reducible exact ih1 _ _ _ _ _ _ _)
      | (with_reducible exact ih2 _ _ _ _ _ _ _ _)
      | (with_reducible exact ih3 _ _ _ _ _ _ _ _ _ _ _ _ _ _ _ _)
      | (with_reducible exact curtilagelaw15_right.mono _ _ _ _)
      | (with_reducible exact plan_Link.mono _ _ _ _)
      | (with_reducible exact LeO.refl _)
      | (with_reducible exact LeO.none _)
      | (with_reducible refine LeO.ite ?_ ?_)
      | (with_reducible refine LeO.bind ?_ (fun _ => ?_))
      | exact ih0 _ _ _ _ _ _
      | exact ih1 _ _ _ _ _ _ _
      | exact ih2 _ _ _ _ _ _ _ _
      | exact ih3 _ _ _ _ _ _ _ _ _ _ _ _ _ _ _ _
      | exact curtilagelaw15_right.mono _ _ _ _
      | exact plan_Link.mono _ _ _ _
      | exact LeO.none _
      | refine LeO.ite ?_ ?_
      | refine LeO.bind ?_ (fun _ => ?_)
    · intro y0 y1 y2 y3 y4 y5 y6 y7 y8 y9 y10 y11 y12 y13 y14 y15
      unfold curtilagelaw15_PlanWhole.j3
      repeat' first
      | (with_reducible exact ih0 _ _ _ _ _ _)
      | (with_reducible exact ih1 _ _ _ _ _ _ _)
      | (with_reducible exact ih2 _ _ _ _ _ _ _ _)
      | (with_reducible exact ih3 _ _ _ _ _ _ _ _ _ _ _ _ _ _ _ _)
      | (with_reducible exact curtilagelaw15_right.mono _ _ _ _)
      | (with_reducible exact plan_Link.mono _ _ _ _)
      | (with_reducible exact LeO.refl _)
      | (with_reducible exact LeO.none _)
      | (with_reducible refine LeO.ite ?_ ?_)
      | (with_reducible refine LeO.bind ?_ (fun _ => ?_))
      | exact ih0 _ _ _ _ _ _
      | exact ih1 _ _ _ _ _ _ _
      | exact ih2 _ _ _ _ _ _ _ _
      | exact ih3 _ _ _ _ _ _ _ _ _ _ _ _ _ _ _ _
      | exact curtilagelaw15_right.mono _ _ _ _
      | exact plan_Link.mono _ _ _ _
      | exact LeO.none _
      | refine LeO.ite ?_ ?_
      | refine LeO.bind ?_ (fun _ => ?_)
theorem curtilagelaw15_PlanWhole.mono : ∀ a0 a1 a2 k, LeO (curtilagelaw15_PlanWhole.f k a0 a1 a2) (curtilagelaw15_PlanWhole.f (k + 1) a0 a1 a2) := by
  intro a0 a1 a2 k
  obtain ⟨ih0, ih1, ih2, ih3⟩ := curtilagelaw15_PlanWhole.mono_l k
  unfold curtilagelaw15_PlanWhole.f
  repeat' first
      | (with_reducible exact ih0 _ _ _ _ _ _)
      | (with_reducible exact ih1 _ _ _ _ _ _ _)
      | (with_reducible exact ih2 _ _ _ _ _ _ _ _)
      | (with_reducible exact ih3 _ _ _ _ _ _ _ _ _ _ _ _ _ _ _ _)
      | (with_reducible exact curtilagelaw15_right.mono _ _ _ _)
      | (with_reducible exact plan_Link.mono _ _ _ _)
      | (with_reducible exact LeO.refl _)
      | (with_reducible exact LeO.none _)
      | (with_reducible refine LeO.ite ?_ ?_)
      | (with_reducible refine LeO.bind ?_ (fun _ => ?_))
      | exact ih0 _ _ _ _ _ _
      | exact ih1 _ _ _ _ _ _ _
      | exact ih2 _ _ _ _ _ _ _ _
      | exact ih3 _ _ _ _ _ _ _ _ _ _ _ _ _ _ _ _
      | exact curtilagelaw15_right.mono _ _ _ _
      | exact plan_Link.mono _ _ _ _
      | exact LeO.none _
      | refine LeO.ite ?_ ?_
      | refine LeO.bind ?_ (fun _ => ?_)
def curtilagelaw15_PlanWhole.T9 : Bool × List (List Nat × List Nat) := (true, [([], []), ([0], [0]), ([1], [1]), ([2, 1], [1, 2]), ([3, 1], [1, 3]), ([1, 4], [1, 4]), ([5, 1], [5]), ([6], [6]), ([7, 6], [6, 7]), ([8, 6], [6, 8]), ([6, 9], [6, 9]), ([10, 6], [10]), ([11], [11]), ([12, 11], [11, 12]), ([11], [11]), ([11], [11]), ([15, 11], [11, 15]), ([14, 16, 11], [11, 14, 16]), ([17, 11], [11, 17]), ([18, 11], [11, 18]), ([19, 11], [11, 19]), ([13, 20, 11], [11, 13, 20]), ([11, 21], [11, 21]), ([22, 11, 0, 1, 2, 3, 4, 5, 6, 7, 8, 9, 10, 11, 12, 13, 14, 15, 16, 17, 18, 19, 20, 21, 22], [22])])
def curtilagelaw15_PlanWhole.B9 : List Nat := [0, 1, 3, 7, 15, 31, 63, 127, 255, 511, 1023, 2047, 4095, 8191, 4095, 4095, 36863, 118783, 249855, 511999, 1036287, 2097151, 4194303, 8388607]
theorem curtilagelaw15_PlanWhole.tab9 : rtab .any (opsOf Try.f5 9) = curtilagelaw15_PlanWhole.T9 := by kernel_rfl
theorem curtilagelaw15_PlanWhole.bits9 : waitsOk curtilagelaw15_PlanWhole.T9.2 curtilagelaw15_PlanWhole.B9 = true := by kernel_rfl
def curtilagelaw15_PlanWhole.T17 : Bool × List (List Nat × List Nat) := (true, [([], []), ([], []), ([1], [1]), ([0, 2], [0, 2]), ([3], [3]), ([4], [4]), ([4], [4]), ([5, 6, 4], [4, 5, 6]), ([7, 4], [4, 7]), ([8, 4], [4, 8]), ([4], [4]), ([4], [4]), ([10, 11, 4], [4, 10, 11]), ([12, 4], [4, 12]), ([9, 13, 4], [4, 9, 13]), ([4, 14], [4, 14]), ([15, 4], [15]), ([16], [16]), ([16], [16]), ([17, 18, 16], [16, 17, 18]), ([19, 16], [16, 19]), ([20, 16], [16, 20]), ([16], [16]), ([21, 22, 16], [16, 21, 22]), ([16, 23], [16, 23])])
def curtilagelaw15_PlanWhole.B17 : List Nat := [0, 0, 2, 7, 15, 31, 31, 127, 255, 511, 31, 31, 3103, 7199, 16383, 32767, 65535, 131071, 131071, 524287, 1048575, 2097151, 131071, 8388607, 16777215]
theorem curtilagelaw15_PlanWhole.tab17 : rtab .any (opsOf Try.f5 17) = curtilagelaw15_PlanWhole.T17 := by kernel_rfl
theorem curtilagelaw15_PlanWhole.bits17 : waitsOk curtilagelaw15_PlanWhole.T17.2 curtilagelaw15_PlanWhole.B17 = true := by kernel_rfl
def curtilagelaw15_PlanWhole.T19 : Bool × List (List Nat × List Nat) := (true, [([], []), ([], []), ([], []), ([1, 2], [1, 2]), ([3], [3]), ([0, 4], [0, 4]), ([5], [5]), ([6], [6]), ([], []), ([], []), ([], []), ([9, 10], [9, 10]), ([11], [11]), ([8, 12], [8, 12]), ([13], [13]), ([14], [14]), ([], []), ([15, 16], [15, 16]), ([17], [17]), ([18], [18]), ([7, 19], [7, 19]), ([20], [20]), ([], []), ([22, 21, 0, 1, 2, 3, 4, 5, 6, 7, 8, 9, 10, 11, 12, 13, 14, 15, 16, 17, 18, 19, 20, 21, 22], [21, 22])])
def curtilagelaw15_PlanWhole.B19 : List Nat := [0, 0, 0, 6, 14, 31, 63, 127, 0, 0, 0, 1536, 3584, 7936, 16128, 32512, 0, 130816, 261888, 524032, 1048575, 2097151, 0, 8388607]
theorem curtilagelaw15_PlanWhole.tab19 : rtab .any (opsOf Try.f5 19) = curtilagelaw15_PlanWhole.T19 := by kernel_rfl
theorem curtilagelaw15_PlanWhole.bits19 : waitsOk curtilagelaw15_PlanWhole.T19.2 curtilagelaw15_PlanWhole.B19 = true := by kernel_rfl
def curtilagelaw15_PlanWhole.T23 : Bool × List (List Nat × List Nat) := (true, [([], []), ([], []), ([0, 1], [0, 1]), ([2], [2]), ([3], [3]), ([], []), ([5], [5]), ([4, 6], [4, 6]), ([7], [7]), ([8], [8]), ([8], [8]), ([9, 10, 8], [8, 9, 10]), ([11, 8], [8, 11]), ([12, 8], [8, 12]), ([13, 8], [8, 13]), ([8, 14], [8, 14]), ([15, 8], [15]), ([16], [16]), ([16], [16]), ([17, 18, 16], [16, 17, 18]), ([19, 16], [16, 19]), ([20, 16], [16, 20]), ([16], [16]), ([16], [16]), ([16], [16]), ([23, 24, 16], [16, 23, 24]), ([25, 16], [16, 25]), ([26, 16], [16, 26]), ([22, 27, 16], [16, 22, 27]), ([28, 16], [16, 28]), ([29, 16], [16, 29]), ([30, 16], [16, 30]), ([21, 31, 16], [16, 21, 31]), ([16, 32], [16, 32])])
def curtilagelaw15_PlanWhole.B23 : List Nat := [0, 0, 3, 7, 15, 0, 32, 127, 255, 511, 511, 2047, 4095, 8191, 16383, 32767, 65535, 131071, 131071, 524287, 1048575, 2097151, 131071, 131071, 131071, 25296895, 58851327, 125960191, 264372223, 532807679, 1069678591, 2143420415, 4294967295, 8589934591]
theorem curtilagelaw15_PlanWhole.tab23 : rtab .any (opsOf Try.f5 23) = curtilagelaw15_PlanWhole.T23 := by kernel_rfl
theorem curtilagelaw15_PlanWhole.bits23 : waitsOk curtilagelaw15_PlanWhole.T23.2 curtilagelaw15_PlanWhole.B23 = true := by kernel_rfl
def curtilagelaw15_PlanWhole.T25 : Bool × List (List Nat × List Nat) := (true, [([], []), ([], []), ([], []), ([1, 2], [1, 2]), ([3], [3]), ([4], [4]), ([0, 5], [0, 5]), ([6], [6]), ([7], [7]), ([], []), ([], []), ([9, 10], [9, 10]), ([11], [11]), ([12], [12]), ([8, 13], [8, 13]), ([14], [14]), ([], []), ([16, 15, 0, 1, 2, 3, 4, 5, 6, 7, 8, 9, 10, 11, 12, 13, 14, 15, 16], [15, 16])])
def curtilagelaw15_PlanWhole.B25 : List Nat := [0, 0, 0, 6, 14, 30, 63, 127, 255, 0, 0, 1536, 3584, 7680, 16383, 32767, 0, 131071]
theorem curtilagelaw15_PlanWhole.tab25 : rtab .any (opsOf Try.f5 25) = curtilagelaw15_PlanWhole.T25 := by kernel_rfl
theorem curtilagelaw15_PlanWhole.bits25 : waitsOk curtilagelaw15_PlanWhole.T25.2 curtilagelaw15_PlanWhole.B25 = true := by kernel_rfl
abbrev e0_ := fun l0 l2 x13_1 x14_2 => (rd_T42 ((rd_T39 l0 (rd l2 x13_1)).f3) ((rd_T44 ((rd_T39 l0 (rd l2 x13_1)).f4) x14_2).f1))
set_option maxHeartbeats 8000000 in
set_option maxRecDepth 100000 in
theorem curtilagelaw15_PlanWhole.calls (k : Nat) (A0 : Option Addr) (c0 : Nat) (l0 : List (S39)) (A1 : Option Addr) (c1 : Nat) (l1 : List Int) (A2 : Option Addr) (c2 : Nat) (l2 : List Int) (r : Bool) (w : World) (hr0 : Kd.C k39 w A0 l0.length l0) (hc0 : l0.length ≤ c0) (hr1 : Kd.C (Kd.int .i64) w A1 l1.length l1) (hc1 : l1.length ≤ c1) (hr2 : Kd.C (Kd.int .i64) w A2 l2.length l2) (hc2 : l2.length ≤ c2) (h : curtilagelaw15_PlanWhole.f k l0 l1 l2 = some r) (hr0 : r = true) :
  Calls Try.prog 5 #[.slice A0 l0.length c0, .slice A1 l1.length c1, .slice A2 l2.length c2] w fun e w' => e = .returned (.bool r) ∧ Below w.heap.size w w' := by
 have HT := am hr0
 clear hr0
 have hu28 := Try.underlying28
 have hu42 := Try.underlying42
 have HR0 := am hr0
 have HC0 := am hc0
 clear hr0 hc0
 have HR1 := am hr1
 have HC1 := am hc1
 clear hr1 hc1
 have HR2 := am hr2
 have HC2 := am hc2
 clear hr2 hc2
 have HB := am (Below.refl w.heap.size w)
 have H : ((curtilagelaw15_awake.f).bind fun t267 => ((curtilagelaw15_right.f k l0 l1 l2).bind fun t268 => (if t268 = true then ((plan_Link.f k l0 l1 l2).bind fun bt269 => (if bt269.2.2.2.2.2 = 0 then (curtilagelaw15_PlanWhole.l0 k l0 l2 t267 bt269.1 0 0) else (if bt269.2.1 < 0 then (some false) else (if bt269.2.1 ≥ (l0.length : Int) then (some false) else (if t267 = true then (if (bt269.1.length : Int) = 0 then (if bt269.2.2.1 ≥ 0 then (if 0 ≤ bt269.2.1 then (if bt269.2.1 < (l0.length : Int) then (some (decide (bt269.2.2.1 < (((rd_T39 l0 bt269.2.1).f4).length : Int)))) else (none)) else (none)) else (some false)) else (some false)) else (some false)))))) else (some t267)))) = some r := h
 clear h
 replace H := Option.bind_eq_some_iff.mp H
 obtain ⟨t267, A40, H⟩ := H
 replace H : ((curtilagelaw15_right.f k l0 l1 l2).bind fun t268 => (if t268 = true then ((plan_Link.f k l0 l1 l2).bind fun bt269 => (if bt269.2.2.2.2.2 = 0 then (curtilagelaw15_PlanWhole.l0 k l0 l2 t267 bt269.1 0 0) else (if bt269.2.1 < 0 then (some false) else (if bt269.2.1 ≥ (l0.length : Int) then (some false) else (if t267 = true then (if (bt269.1.length : Int) = 0 then (if bt269.2.2.1 ≥ 0 then (if 0 ≤ bt269.2.1 then (if bt269.2.1 < (l0.length : Int) then (some (decide (bt269.2.2.1 < (((rd_T39 l0 bt269.2.1).f4).length : Int)))) else (none)) else (none)) else (some false)) else (some false)) else (some false)))))) else (some t267))) = some r := H
 have A4 := am A40
 clear A40
 replace H := Option.bind_eq_some_iff.mp H
 obtain ⟨t268, A50, H⟩ := H
 replace H : (if t268 = true then ((plan_Link.f k l0 l1 l2).bind fun bt269 => (if bt269.2.2.2.2.2 = 0 then (curtilagelaw15_PlanWhole.l0 k l0 l2 t267 bt269.1 0 0) else (if bt269.2.1 < 0 then (some false) else (if bt269.2.1 ≥ (l0.length : Int) then (some false) else (if t267 = true then (if (bt269.1.length : Int) = 0 then (if bt269.2.2.1 ≥ 0 then (if 0 ≤ bt269.2.1 then (if bt269.2.1 < (l0.length : Int) then (some (decide (bt269.2.2.1 < (((rd_T39 l0 bt269.2.1).f4).length : Int)))) else (none)) else (none)) else (some false)) else (some false)) else (some false)))))) else (some t267)) = some r := H
 have A5 := am A50
 clear A50
 by_cases c6 : t268 = true
 ·subst c6
  have H1 : ((plan_Link.f k l0 l1 l2).bind fun bt269 => (if bt269.2.2.2.2.2 = 0 then (curtilagelaw15_PlanWhole.l0 k l0 l2 t267 bt269.1 0 0) else (if bt269.2.1 < 0 then (some false) else (if bt269.2.1 ≥ (l0.length : Int) then (some false) else (if t267 = true then (if (bt269.1.length : Int) = 0 then (if bt269.2.2.1 ≥ 0 then (if 0 ≤ bt269.2.1 then (if bt269.2.1 < (l0.length : Int) then (some (decide (bt269.2.2.1 < (((rd_T39 l0 bt269.2.1).f4).length : Int)))) else (none)) else (none)) else (some false)) else (some false)) else (some false)))))) = some r := by rw [if_pos rfl] at H; exact H
  clear H
  have H := H1
  clear H1
  replace H := Option.bind_eq_some_iff.mp H
  obtain ⟨⟨t269, t272, t273, t274, t275, t276⟩, A70, H⟩ := H
  replace H : (if t276 = 0 then (curtilagelaw15_PlanWhole.l0 k l0 l2 t267 t269 0 0) else (if t272 < 0 then (some false) else (if t272 ≥ (l0.length : Int) then (some false) else (if t267 = true then (if (t269.length : Int) = 0 then (if t273 ≥ 0 then (if 0 ≤ t272 then (if t272 < (l0.length : Int) then (some (decide (t273 < (((rd_T39 l0 t272).f4).length : Int)))) else (none)) else (none)) else (some false)) else (some false)) else (some false))))) = some r := H
  have A7 := am A70
  clear A70
  by_cases c8 : t276 = 0
  ·rw [if_pos c8] at H
   have c8b0 : (t276 == 0) = true := beq_iff_eq.mpr c8
   have c8b1 : (t276 != 0) = false := bne_eq_false_iff_eq.mpr c8
   clear c8
   have H' := am H
   clear H
   go_enter Try.func5, Try.ntmps5
   go_wp2_with (first | ((with_reducible refine gate_dst (N := 17) rfl ?_); (with_reducible refine gate_callee (f := 6) rfl ?_); refine goesL_ (some 17) rfl rfl Try.func6 (by kernel_rfl) rfl #[] rfl (by (try simp only [List.map_toArray, List.map_cons, List.map_nil]); first | done | rfl | (simp only [List.length_drop, List.length_take]; rfl)) ?_; (with_reducible refine (curtilagelaw15_awake.calls  t267 _ A4.out).mono ?_); rintro e w9 ⟨rfl, hb⟩; refine ⟨_, rfl, ?_⟩; have n0_ := am (below_step (uc HB.out) hb); revert n0_; clear HB; intro HB; (try clear hb); (try clear hb2); (try clear hk); (try clear hi)) | ((with_reducible refine gate_dst (N := 21) rfl ?_); (with_reducible refine gate_callee (f := 7) rfl ?_); refine goesL_ (some 21) rfl rfl Try.func7 (by kernel_rfl) rfl #[.slice A0 l0.length c0, .slice A1 l1.length c1, .slice A2 l2.length c2] rfl (by (try simp only [List.map_toArray, List.map_cons, List.map_nil]); first | done | rfl | (simp only [List.length_drop, List.length_take]; rfl)) ?_; (with_reducible refine (curtilagelaw15_right.calls k _ _ l0 _ _ l1 _ _ l2 true _ ?side1 ?side2 ?side3 ?side4 ?side5 ?side6 A5.out).mono ?_); (case side1 => exact us (Kd.C_below HR0.out HB.out)); (case side2 => exact HC0.out); (case side3 => exact us (Kd.C_below HR1.out HB.out)); (case side4 => exact HC1.out); (case side5 => exact us (Kd.C_below HR2.out HB.out)); (case side6 => exact HC2.out); rintro e w10 ⟨rfl, hb⟩; refine ⟨_, rfl, ?_⟩; have n0_ := am (below_step (uc HB.out) hb); revert n0_; clear HB; intro HB; (try clear hb); (try clear hb2); (try clear hk); (try clear hi)) | ((with_reducible refine gate_dst (N := 29) rfl ?_); (with_reducible refine gate_callee (f := 8) rfl ?_); refine goesL_ (some 29) rfl rfl Try.func8 (by kernel_rfl) rfl #[.slice A0 l0.length c0, .slice A1 l1.length c1, .slice A2 l2.length c2] rfl (by (try simp only [List.map_toArray, List.map_cons, List.map_nil]); first | done | rfl | (simp only [List.length_drop, List.length_take]; rfl)) ?_; (with_reducible refine (plan_Link.calls k _ _ l0 _ _ l1 _ _ l2 t269 t272 t273 t274 t275 t276 _ ?side1 ?side2 ?side3 ?side4 ?side5 ?side6 A7.out).mono ?_); (case side1 => exact us (Kd.C_below HR0.out HB.out)); (case side2 => exact HC0.out); (case side3 => exact us (Kd.C_below HR1.out HB.out)); (case side4 => exact HC1.out); (case side5 => exact us (Kd.C_below HR2.out HB.out)); (case side6 => exact HC2.out); rintro e w11 ⟨v270, rfl, ho0, hb⟩; refine ⟨_, rfl, ?_⟩; have n0_ := am (Kd.R_lower ho0 (below_size (uc HB.out))); have n1_ := am (below_step (uc HB.out) hb); revert n0_ n1_; clear HB; intro HO271 HB; (try clear hb); (try clear hb2); (try clear hk); (try clear hi); (try clear ho0)) | ((with_reducible refine gate_dst (N := 10) rfl ?_); (try (refine gate_guard (by rfl) ?_; dsimp only)); refine box_event ?hg (N := 10) ?hd (cs := #[.int .i64 0, .int .i64 0, .int .i64 0, .int .i64 0]) (t := 28) ?hr ?_; (case hd => rfl); (case hg => rfl); (case hr => first | (go_simp; done) | (go_simp; rfl)); intro gb277 hg w12 hbox hb; have n0_ := am (Kd.R_below (Kd.R_elderB (ua HO271.out) gb277 (Nat.le_of_eq hg.symm)) hb); have n1_ := am (below_step (uc HB.out) hb); have n2_ := am (hbox); have n3_ := am ((by rw [hg]; exact (below_size (uc HB.out)) : w.heap.size ≤ gb277)); have n4_ := am ((by rw [hg]; exact (below_size (uc HB.out)) : w.heap.size ≤ gb277)); revert n0_ n1_ n2_ n3_ n4_; clear HO271 HB; intro HO271 HB BK277 GW277 GE277; clear hb hbox hg; obtain ⟨hcz13_0, hcz13_1, hcz13_2, hcz13_3, hfz13_0, hfz13_1, hfz13_2, hfz13_3⟩ := cells4 BK277.out) | ((with_reducible refine gate_store (t := 28) (p := 10) rfl ?_); refine store_event (t := 28) (p := 10) (v := ?vo_w14) (w1 := ((((w12.setCell ⟨gb277, 0, none⟩ (.int .i64 t272)).setCell ⟨gb277, 1, none⟩ (.int .i64 t273)).setCell ⟨gb277, 2, none⟩ (.int .i64 t274)).setCell ⟨gb277, 3, none⟩ (.int .i64 t275))) ?hg ?ho ?hn ?hr ?_; (case ho => rfl); (case hg => rfl); (case hn => rfl); (case hr => first | (go_simp; done) | (go_simp; rfl)); intro w14 hw; have n0_ : Aside0 (Kd.R k28 28 w14 w.heap.size (fun k_ => k_ ≠ gb277) v270 t269) := ⟨(by rw [hw]; exact (by (with_reducible repeat (first | apply Kd.R_alloc | apply Kd.R_drewN | apply Kd.R_drew)); exact Kd.R_mono (Kd.R_far (p := ⟨gb277, 3, none⟩) (Kd.R_far (p := ⟨gb277, 2, none⟩) (Kd.R_far (p := ⟨gb277, 1, none⟩) (Kd.R_far (p := ⟨gb277, 0, none⟩) (Kd.R_mono HO271.out (fun k_ hk => (⟨hk, hk.2⟩ : _ ∧ k_ ≠ gb277))) (fun _ hk => hk.2) (.int .i64 t272)) (fun _ hk => hk.2) (.int .i64 t273)) (fun _ hk => hk.2) (.int .i64 t274)) (fun _ hk => hk.2) (.int .i64 t275)) (fun _ hk => hk.1.2)))⟩; have n1_ : Aside0 (w14.heap[gb277]? = some (.cells #[.int .i64 t272, .int .i64 t273, .int .i64 t274, .int .i64 t275] 28 (0, 0))) := ⟨(by rw [hw]; exact (by (with_reducible repeat (first | refine blk_drewN ?_ _ | refine blk_drew ?_ | refine blk_alloc ?_ _)); refine blk_put (cs := #[.int .i64 t272, .int .i64 t273, .int .i64 t274, .int .i64 0]) ?_ 3 _ rfl; (with_reducible repeat (first | refine blk_drewN ?_ _ | refine blk_drew ?_ | refine blk_alloc ?_ _)); refine blk_put (cs := #[.int .i64 t272, .int .i64 t273, .int .i64 0, .int .i64 0]) ?_ 2 _ rfl; (with_reducible repeat (first | refine blk_drewN ?_ _ | refine blk_drew ?_ | refine blk_alloc ?_ _)); refine blk_put (cs := #[.int .i64 t272, .int .i64 0, .int .i64 0, .int .i64 0]) ?_ 1 _ rfl; (with_reducible repeat (first | refine blk_drewN ?_ _ | refine blk_drew ?_ | refine blk_alloc ?_ _)); refine blk_put (cs := #[.int .i64 0, .int .i64 0, .int .i64 0, .int .i64 0]) ?_ 0 _ rfl; (with_reducible repeat (first | refine blk_drewN ?_ _ | refine blk_drew ?_ | refine blk_alloc ?_ _)); exact BK277.out))⟩; have n2_ : Aside0 (Below w.heap.size w w14) := ⟨(by rw [hw]; exact (uc HB.out))⟩; revert n0_ n1_ n2_; clear hw HO271 BK277 HB; intro HO271 BK277 HB))
   go_loopg [12, 13] k (fun kq v12 v13 w' => ∃ (x12_1 : Int) (x13_1 : Int), v12 = .int .i64 x12_1 ∧ v13 = .int .i64 x13_1 ∧ Aside0 (curtilagelaw15_PlanWhole.l0 kq l0 l2 t267 t269 x12_1 x13_1 = some r) ∧ Aside0 (kq ≤ k) ∧ Aside0 (Kd.R k28 28 w' w.heap.size (fun k_ => k_ ≠ gb277) v270 t269) ∧ Aside0 (w'.heap[gb277]? = some (.cells #[.int .i64 t272, .int .i64 t273, .int .i64 t274, .int .i64 t275] 28 (0, 0))) ∧ Aside0 (Below w.heap.size w w'))
   case atStart => exact ⟨(0), (0), uf, uf, H', ⟨Nat.le_refl _⟩, ⟨by (with_reducible repeat (first | apply Kd.R_alloc | apply Kd.R_drewN | apply Kd.R_drew)); exact HO271.out⟩, ⟨by (with_reducible repeat (first | refine blk_drewN ?_ _ | refine blk_drew ?_ | refine blk_alloc ?_ _)); exact BK277.out⟩, ⟨by repeat (first | (with_reducible first | exact HB.out | apply below_alloc | apply pw_below_drewN | apply below_drew1 | refine below_set ?_ GE277.out) | exact HB.out)⟩⟩
   case round =>
    clear H'
    try clear c1
    try clear c2
    try clear p2
    try clear c5
    try clear c6
    try clear c7
    try clear c8
    try clear c8b0
    try clear c8b1
    try clear hcz13_0
    try clear hcz13_1
    try clear hcz13_2
    try clear hcz13_3
    try clear hfz13_0
    try clear hfz13_1
    try clear hfz13_2
    try clear hfz13_3
    obtain ⟨x12_1, x13_1, rfl, rfl, HA, HK1, HO_9, BK277, HB⟩ := hrel
    cases gk with
    | zero => exact absurd HA.out (by simp [curtilagelaw15_PlanWhole.l0])
    | succ k1 =>
     have H := HA.out
     clear HA
     simp only [curtilagelaw15_PlanWhole.l0] at H
     by_cases c15 : x13_1 < (l2.length : Int)
     ·rw [if_pos c15] at H
      have c15b0 : decide (x13_1 < (l2.length : Int)) = true := decide_eq_true c15
      clear c15
      have H' := am H
      clear H
      go_wp2
      go_loopg [12, 14] k1 (fun kq v12 v14 w' => ∃ (x12_2 : Int) (x14_2 : Int), v12 = .int .i64 x12_2 ∧ v14 = .int .i64 x14_2 ∧ Aside0 (curtilagelaw15_PlanWhole.l1 kq l0 l2 t267 t269 x12_2 x13_1 x14_2 = some r) ∧ Aside0 (kq ≤ k1) ∧ Aside0 (Kd.R k28 28 w' w.heap.size (fun k_ => k_ ≠ gb277) v270 t269) ∧ Aside0 (w'.heap[gb277]? = some (.cells #[.int .i64 t272, .int .i64 t273, .int .i64 t274, .int .i64 t275] 28 (0, 0))) ∧ Aside0 (Below w.heap.size w w'))
      case atStart => exact ⟨(x12_1), (0), uf, uf, H', ⟨Nat.le_refl _⟩, ⟨by (with_reducible repeat (first | apply Kd.R_alloc | apply Kd.R_drewN | apply Kd.R_drew)); exact HO_9.out⟩, ⟨by (with_reducible repeat (first | refine blk_drewN ?_ _ | refine blk_drew ?_ | refine blk_alloc ?_ _)); exact BK277.out⟩, ⟨by repeat (first | (with_reducible first | exact HB.out | apply below_alloc | apply pw_below_drewN | apply below_drew1 | refine below_set ?_ GE277.out) | exact HB.out)⟩⟩
      case round =>
       clear H'
       try clear c1
       try clear c2
       try clear p2
       try clear c5
       try clear c6
       try clear c7
       try clear c8
       try clear c8b0
       try clear c8b1
       try clear c15
       try clear c15b0
       try clear hcz13_0
       try clear hcz13_1
       try clear hcz13_2
       try clear hcz13_3
       try clear hfz13_0
       try clear hfz13_1
       try clear hfz13_2
       try clear hfz13_3
       try clear p2
       obtain ⟨x12_2, x14_2, rfl, rfl, HA, HK2, HO_9, BK277, HB⟩ := hrel
       cases gk with
       | zero => exact absurd HA.out (by simp [curtilagelaw15_PlanWhole.l1])
       | succ k2 =>
        have H := HA.out
        clear HA
        simp only [curtilagelaw15_PlanWhole.l1] at H
        by_cases c16 : 0 ≤ x13_1
        ·rw [if_pos c16] at H
         have c16b0 : decide (0 ≤ x13_1) = true := decide_eq_true c16
         clear c16
         by_cases c17 : x13_1 < (l2.length : Int)
         ·rw [if_pos c17] at H
          have c17b0 : decide (x13_1 < (l2.length : Int)) = true := decide_eq_true c17
          clear c17
          by_cases c18 : 0 ≤ (rd l2 x13_1)
          ·rw [if_pos c18] at H
           have c18b0 : decide (0 ≤ (rd l2 x13_1)) = true := decide_eq_true c18
           clear c18
           by_cases c19 : (rd l2 x13_1) < (l0.length : Int)
           ·rw [if_pos c19] at H
            have c19b0 : decide ((rd l2 x13_1) < (l0.length : Int)) = true := decide_eq_true c19
            clear c19
            by_cases c20 : x14_2 < (((rd_T39 l0 (rd l2 x13_1)).f4).length : Int)
            ·rw [if_pos c20] at H
             have c20b0 : decide (x14_2 < (((rd_T39 l0 (rd l2 x13_1)).f4).length : Int)) = true := decide_eq_true c20
             clear c20
             have HC21 := am H
             clear H
             have p279 : 0 ≤ (x13_1 : Int) := ud
             have q279 : x13_1 < (l2.length : Int) := ud
             obtain ⟨ad279, e279, hx279_0⟩ := Kd.at_int HR2.out x13_1 p279 q279
             cases e279
             replace hx279_0 := bcel HB hx279_0
             replace p279 := eq_true p279
             replace q279 := eq_true q279
             have p280 : 0 ≤ ((rd l2 x13_1) : Int) := ud
             have q280 : (rd l2 x13_1) < (l0.length : Int) := ud
             obtain ⟨ad280, A280_1, c280_1, A280_2, c280_2, A280_3, c280_3, A280_4, c280_4, A280_5, c280_5, A280_6, c280_6, e280, hx280_0, hx280_1, hx280_2, hx280_3, hx280_4, hx280_5, hx280_6, hl280_1, hi280_1, hl280_2, hi280_2, hl280_3, hi280_3, hl280_4, hi280_4, hl280_5, hi280_5, hl280_6, hi280_6⟩ := at_T39 HR0.out (rd l2 x13_1) p280 q280
             cases e280
             replace hx280_0 := bcel HB hx280_0
             replace hx280_1 := bcel HB hx280_1
             replace hx280_2 := bcel HB hx280_2
             replace hx280_3 := bcel HB hx280_3
             replace hx280_4 := bcel HB hx280_4
             replace hx280_5 := bcel HB hx280_5
             replace hx280_6 := bcel HB hx280_6
             have HR280_1 := am hi280_1
             have HC280_1 := am hl280_1
             clear hi280_1 hl280_1
             have HR280_2 := am hi280_2
             have HC280_2 := am hl280_2
             clear hi280_2 hl280_2
             have HR280_3 := am hi280_3
             have HC280_3 := am hl280_3
             clear hi280_3 hl280_3
             have HR280_4 := am hi280_4
             have HC280_4 := am hl280_4
             clear hi280_4 hl280_4
             have HR280_5 := am hi280_5
             have HC280_5 := am hl280_5
             clear hi280_5 hl280_5
             have HR280_6 := am hi280_6
             have HC280_6 := am hl280_6
             clear hi280_6 hl280_6
             replace p280 := eq_true p280
             replace q280 := eq_true q280
             go_upto_region 17 with (fail)
             go_cut [111] (fun v111 wc => ∃ (kq : Nat) (x111_20 : Bool), v111 = .bool x111_20 ∧ Aside0 (curtilagelaw15_PlanWhole.j2 kq l0 l2 t267 t269 x12_2 x13_1 x14_2 x111_20 = some r) ∧ Aside0 (kq ≤ k2) ∧ Aside0 (Kd.R k28 28 wc w.heap.size (fun k_ => k_ ≠ gb277) v270 t269) ∧ Aside0 (wc.heap[gb277]? = some (.cells #[.int .i64 t272, .int .i64 t273, .int .i64 t274, .int .i64 t275] 28 (0, 0))) ∧ Aside0 (Below w.heap.size w wc))
             case first =>
              have H := HC21.out
              clear HC21
              by_cases c22 : x12_2 ≥ (t269.length : Int)
              ·rw [if_pos c22] at H
               have c22b0 : decide ((t269.length : Int) ≤ x12_2) = true := decide_eq_true c22
               clear c22
               (first | rw [c22b0] | (simp only [i64_w, i32_w]; rw [c22b0]) | skip)
               have H' := am H
               clear H
               try go_wp2
               have n0_ := am (Kd.R_drew HO_9.out)
               have n1_ := am (blk_drew BK277.out)
               have n2_ := am (below_drew1 HB.out)
               revert n0_ n1_ n2_
               clear HO_9 BK277 HB
               intro HO_9 BK277 HB
               obtain ⟨Ao24, co24, eo24⟩ := Kd.R_slice HO_9.out
               (first | subst eo24 | (injection eo24 with f1_ f2_ f3_; have f4_ := f1_.symm; have f5_ := f3_.symm; clear f1_ f2_ f3_; subst f4_; subst f5_))
               refine start_ (n := 25) (S := fun w' => True) (ds := []) #[false, false, false, false, false, false, false, false, false, false, false, false, false, false, false, false, false, false, false, false, false, false, false, false, false] (by kernel_rfl) rfl rfl trivial (fun hHeld => ?_); refine with_tabW curtilagelaw15_PlanWhole.tab17 curtilagelaw15_PlanWhole.bits17 (fun HT_ HW_ => ?_)
               generalize wr.drew = w23 at HO_9 BK277 HB hHeld ⊢
               refine pu 0 87 (bA 25 1) HT_ ?_ ?_ ?_ ?_ ?_; rotate_left; (intro w'; go_simp; with_reducible rfl); rotate_left; (simp only [Act.put, s1, s2, s3, i64_w, i32_w]; rfl)
               refine pu 1 88 (bA 25 3) HT_ ?_ ?_ ?_ ?_ ?_; rotate_left; (intro w'; go_simp; with_reducible rfl); rotate_left; (simp only [Act.put, s1, s2, s3, i64_w, i32_w]; rfl)
               refine pu 2 89 (bA 25 7) HT_ ?_ ?_ ?_ ?_ ?_; rotate_left; (intro w'; go_simp; with_reducible rfl); rotate_left; (simp only [Act.put, s1, s2, s3, i64_w, i32_w]; rfl)
               refine pu 3 90 (bA 25 15) HT_ ?_ ?_ ?_ ?_ ?_; rotate_left; (intro w'; go_simp; with_reducible rfl); rotate_left; (simp only [Act.put, s1, s2, s3, i64_w, i32_w]; rfl)
               refine pu 4 91 (bA 25 31) HT_ ?_ ?_ ?_ ?_ ?_; rotate_left; (intro w'; go_simp; with_reducible rfl); rotate_left; (simp only [Act.put, s1, s2, s3, i64_w, i32_w]; rfl)
               refine pn 5 92 (bA 25 63) HT_ ?_ ?_ ?_; rotate_left; (simp only [Act.put, s1, s2, s3, i64_w, i32_w]; rfl)
               refine pn 6 93 (bA 25 127) HT_ ?_ ?_ ?_; rotate_left; (simp only [Act.put, s1, s2, s3, i64_w, i32_w]; rfl)
               refine pn 7 94 (bA 25 255) HT_ ?_ ?_ ?_; rotate_left; (simp only [Act.put, s1, s2, s3, i64_w, i32_w]; rfl)
               refine pn 8 95 (bA 25 511) HT_ ?_ ?_ ?_; rotate_left; (simp only [Act.put, s1, s2, s3, i64_w, i32_w]; rfl)
               refine pn 9 96 (bA 25 1023) HT_ ?_ ?_ ?_; rotate_left; (simp only [Act.put, s1, s2, s3, i64_w, i32_w]; rfl)
               refine pn 10 97 (bA 25 2047) HT_ ?_ ?_ ?_; rotate_left; (simp only [Act.put, s1, s2, s3, i64_w, i32_w]; rfl)
               refine pn 11 98 (bA 25 4095) HT_ ?_ ?_ ?_; rotate_left; (simp only [Act.put, s1, s2, s3, i64_w, i32_w]; rfl)
               refine pn 12 99 (bA 25 8191) HT_ ?_ ?_ ?_; rotate_left; (simp only [Act.put, s1, s2, s3, i64_w, i32_w]; rfl)
               refine pn 13 100 (bA 25 16383) HT_ ?_ ?_ ?_; rotate_left; (simp only [Act.put, s1, s2, s3, i64_w, i32_w]; rfl)
               refine pn 14 101 (bA 25 32767) HT_ ?_ ?_ ?_; rotate_left; (simp only [Act.put, s1, s2, s3, i64_w, i32_w]; rfl)
               refine pu 15 102 (bA 25 65535) HT_ ?_ ?_ ?_ ?_ ?_; rotate_left; (intro w'; go_simp; with_reducible rfl); rotate_left; (simp only [Act.put, s1, s2, s3, i64_w, i32_w]; rfl)
               refine pu 16 103 (bA 25 131071) HT_ ?_ ?_ ?_ ?_ ?_; rotate_left; (intro w'; go_simp; with_reducible rfl); rotate_left; (simp only [Act.put, s1, s2, s3, i64_w, i32_w]; rfl)
               refine pn 17 104 (bA 25 262143) HT_ ?_ ?_ ?_; rotate_left; (simp only [Act.put, s1, s2, s3, i64_w, i32_w]; rfl)
               refine pn 18 105 (bA 25 524287) HT_ ?_ ?_ ?_; rotate_left; (simp only [Act.put, s1, s2, s3, i64_w, i32_w]; rfl)
               refine pn 19 106 (bA 25 1048575) HT_ ?_ ?_ ?_; rotate_left; (simp only [Act.put, s1, s2, s3, i64_w, i32_w]; rfl)
               refine pn 20 107 (bA 25 2097151) HT_ ?_ ?_ ?_; rotate_left; (simp only [Act.put, s1, s2, s3, i64_w, i32_w]; rfl)
               refine pn 21 108 (bA 25 4194303) HT_ ?_ ?_ ?_; rotate_left; (simp only [Act.put, s1, s2, s3, i64_w, i32_w]; rfl)
               refine pn 22 109 (bA 25 8388607) HT_ ?_ ?_ ?_; rotate_left; (simp only [Act.put, s1, s2, s3, i64_w, i32_w]; rfl)
               refine pn 23 110 (bA 25 16777215) HT_ ?_ ?_ ?_; rotate_left; (simp only [Act.put, s1, s2, s3, i64_w, i32_w]; rfl)
               refine pu 24 111 (bA 25 33554431) HT_ ?_ ?_ ?_ ?_ ?_; rotate_left; (intro w'; go_simp; with_reducible rfl); rotate_left; (simp only [Act.put, s1, s2, s3, i64_w, i32_w]; rfl)
               refine done_ (done_of HT_.out (by kernel_rfl)) ?_
               try go_wp2
               go_meet
               case rel => exact ⟨_, (true), uf, H', ⟨by have := HK1.out; have := HK2.out; first | omega | exact Nat.le_refl _⟩, ⟨by (with_reducible repeat (first | apply Kd.R_alloc | apply Kd.R_drewN | apply Kd.R_drew)); exact HO_9.out⟩, ⟨by (with_reducible repeat (first | refine blk_drewN ?_ _ | refine blk_drew ?_ | refine blk_alloc ?_ _)); exact BK277.out⟩, ⟨by repeat (first | (with_reducible first | exact HB.out | apply below_alloc | apply pw_below_drewN | apply below_drew1 | refine below_set ?_ GE277.out) | exact HB.out)⟩⟩
              ·rw [if_neg c22] at H
               have c22b0 : decide ((t269.length : Int) ≤ x12_2) = false := decide_eq_false c22
               clear c22
               (first | rw [c22b0] | (simp only [i64_w, i32_w]; rw [c22b0]) | skip)
               by_cases c25 : 0 ≤ x12_2
               ·rw [if_pos c25] at H
                have c25b0 : decide (0 ≤ x12_2) = true := decide_eq_true c25
                clear c25
                by_cases c26 : x12_2 < (t269.length : Int)
                ·rw [if_pos c26] at H
                 have c26b0 : decide (x12_2 < (t269.length : Int)) = true := decide_eq_true c26
                 clear c26
                 by_cases c27 : ((rd_T28 t269 x12_2).f0) = (rd l2 x13_1)
                 ·rw [if_pos c27] at H
                  have c27b0 : (((rd_T28 t269 x12_2).f0) == (rd l2 x13_1)) = true := beq_iff_eq.mpr c27
                  have c27b1 : (((rd_T28 t269 x12_2).f0) != (rd l2 x13_1)) = false := bne_eq_false_iff_eq.mpr c27
                  clear c27
                  have H' := am H
                  clear H
                  try go_wp2
                  have n0_ := am (Kd.R_drew HO_9.out)
                  have n1_ := am (blk_drew BK277.out)
                  have n2_ := am (below_drew1 HB.out)
                  revert n0_ n1_ n2_
                  clear HO_9 BK277 HB
                  intro HO_9 BK277 HB
                  obtain ⟨Ao29, co29, eo29⟩ := Kd.R_slice HO_9.out
                  (first | subst eo29 | (injection eo29 with f1_ f2_ f3_; have f4_ := f1_.symm; have f5_ := f3_.symm; clear f1_ f2_ f3_; subst f4_; subst f5_))
                  have p281 : 0 ≤ (x12_2 : Int) := ud
                  have q281 : x12_2 < (t269.length : Int) := ud
                  obtain ⟨ad281, e281, hx281_0, hx281_1, hx281_2, hx281_3⟩ := at_T28 (Kd.R_reads' HO_9.out).2.2 x12_2 p281 q281
                  cases e281
                  replace p281 := eq_true p281
                  replace q281 := eq_true q281
                  have p282 : 0 ≤ (x13_1 : Int) := ud
                  have q282 : x13_1 < (l2.length : Int) := ud
                  obtain ⟨ad282, e282, hx282_0⟩ := Kd.at_int HR2.out x13_1 p282 q282
                  have hw282_0 := hx282_0
                  obtain rfl : ad279 = ad282 := (by injection e282)
                  replace hx282_0 := bcel HB hx282_0
                  replace p282 := eq_true p282
                  replace q282 := eq_true q282
                  have p283 : 0 ≤ (x12_2 : Int) := ud
                  have q283 : x12_2 < (t269.length : Int) := ud
                  obtain ⟨ad283, e283, hx283_0, hx283_1, hx283_2, hx283_3⟩ := at_T28 (Kd.R_reads' HO_9.out).2.2 x12_2 p283 q283
                  obtain rfl : ad281 = ad283 := (by injection e283)
                  replace p283 := eq_true p283
                  replace q283 := eq_true q283
                  refine start_ (n := 25) (S := fun w' => w'.cell? (ad281.add ((x12_2).toNat * 4)) = some (.int .i64 ((rd_T28 t269 x12_2).f0)) ∧ w'.cell? ⟨(ad281.add ((x12_2).toNat * 4)).block, (ad281.add ((x12_2).toNat * 4)).off + 1, none⟩ = some (.int .i64 ((rd_T28 t269 x12_2).f1)) ∧ w'.cell? ⟨(ad281.add ((x12_2).toNat * 4)).block, (ad281.add ((x12_2).toNat * 4)).off + 2, none⟩ = some (.int .i64 ((rd_T28 t269 x12_2).f2)) ∧ w'.cell? ⟨(ad281.add ((x12_2).toNat * 4)).block, (ad281.add ((x12_2).toNat * 4)).off + 3, none⟩ = some (.int .i64 ((rd_T28 t269 x12_2).f3)) ∧ w'.cell? (ad279.add (x13_1).toNat) = some (.int .i64 (rd l2 x13_1)) ∧ w'.cell? (ad281.add ((x12_2).toNat * 4)) = some (.int .i64 ((rd_T28 t269 x12_2).f0)) ∧ w'.cell? ⟨(ad281.add ((x12_2).toNat * 4)).block, (ad281.add ((x12_2).toNat * 4)).off + 1, none⟩ = some (.int .i64 ((rd_T28 t269 x12_2).f1)) ∧ w'.cell? ⟨(ad281.add ((x12_2).toNat * 4)).block, (ad281.add ((x12_2).toNat * 4)).off + 2, none⟩ = some (.int .i64 ((rd_T28 t269 x12_2).f2)) ∧ w'.cell? ⟨(ad281.add ((x12_2).toNat * 4)).block, (ad281.add ((x12_2).toNat * 4)).off + 3, none⟩ = some (.int .i64 ((rd_T28 t269 x12_2).f3))) (ds := []) #[false, false, false, false, false, false, false, false, false, false, false, false, false, false, false, false, false, false, false, false, false, false, false, false, false] (by kernel_rfl) rfl rfl ⟨hx281_0, hx281_1, hx281_2, hx281_3, (bcel HB hw282_0), hx283_0, hx283_1, hx283_2, hx283_3⟩ (fun hHeld => ?_); refine with_tabW curtilagelaw15_PlanWhole.tab17 curtilagelaw15_PlanWhole.bits17 (fun HT_ HW_ => ?_)
                  generalize wr.drew = w28 at HO_9 BK277 HB hx281_0 hx281_1 hx281_2 hx281_3 hx282_0 hx283_0 hx283_1 hx283_2 hx283_3 hHeld ⊢
                  refine pu 0 87 (bA 25 1) HT_ ?_ ?_ ?_ ?_ ?_; rotate_left; (intro w'; go_simp; with_reducible rfl); rotate_left; (simp only [Act.put, s1, s2, s3, i64_w, i32_w]; rfl)
                  refine pu 1 88 (bA 25 3) HT_ ?_ ?_ ?_ ?_ ?_; rotate_left; (intro w'; go_simp; with_reducible rfl); rotate_left; (simp only [Act.put, s1, s2, s3, i64_w, i32_w]; rfl)
                  refine pu 2 89 (bA 25 7) HT_ ?_ ?_ ?_ ?_ ?_; rotate_left; (intro w'; go_simp; with_reducible rfl); rotate_left; (simp only [Act.put, s1, s2, s3, i64_w, i32_w]; rfl)
                  refine pu 3 90 (bA 25 15) HT_ ?_ ?_ ?_ ?_ ?_; rotate_left; (intro w'; go_simp; with_reducible rfl); rotate_left; (simp only [Act.put, s1, s2, s3, i64_w, i32_w]; rfl)
                  refine pu 4 91 (bA 25 31) HT_ ?_ ?_ ?_ ?_ ?_; rotate_left; (intro w'; go_simp; with_reducible rfl); rotate_left; (simp only [Act.put, s1, s2, s3, i64_w, i32_w]; rfl)
                  refine pu 5 92 (bA 25 63) HT_ ?_ ?_ ?_ ?_ ?_; rotate_left; (intro w'; go_simp; with_reducible rfl); rotate_left; (simp only [Act.put, s1, s2, s3, i64_w, i32_w]; rfl)
                  refine pu 6 93 (bA 25 127) HT_ ?_ ?_ ?_ ?_ ?_; rotate_left; (intro w'; go_simp; with_reducible rfl); rotate_left; (simp only [Act.put, s1, s2, s3, i64_w, i32_w]; rfl)
                  refine pu 7 94 (bA 25 255) HT_ ?_ ?_ ?_ ?_ ?_; rotate_left; (intro w'; go_simp; with_reducible rfl); rotate_left; (simp only [Act.put, s1, s2, s3, i64_w, i32_w]; rfl)
                  refine pu 8 95 (bA 25 511) HT_ ?_ ?_ ?_ ?_ ?_; rotate_left; (intro w'; go_simp; with_reducible rfl); rotate_left; (simp only [Act.put, s1, s2, s3, i64_w, i32_w]; rfl)
                  refine pu 10 97 (bA 25 1535) HT_ ?_ ?_ ?_ ?_ ?_; rotate_left; (intro w'; go_simp; with_reducible rfl); rotate_left; (simp only [Act.put, s1, s2, s3, i64_w, i32_w]; rfl)
                  refine pu 11 98 (bA 25 3583) HT_ ?_ ?_ ?_ ?_ ?_; rotate_left; (intro w'; go_simp; with_reducible rfl); rotate_left; (simp only [Act.put, s1, s2, s3, i64_w, i32_w]; rfl)
                  refine pu 12 99 (bA 25 7679) HT_ ?_ ?_ ?_ ?_ ?_; rotate_left; (intro w'; go_simp; with_reducible rfl); rotate_left; (simp only [Act.put, s1, s2, s3, i64_w, i32_w]; rfl)
                  refine ta 9 96 (bA 25 8191) HT_ HW_ ?_ ?_ hHeld ?_ ?_ ?_; rotate_left; (rintro w' ⟨s0, s1, s2, s3, s4, s5, s6, s7, s8⟩; go_simp; with_reducible rfl); rotate_left; (simp only [Act.put, s1, s2, s3, i64_w, i32_w]; rfl)
                  refine ta 13 100 (bA 25 16383) HT_ HW_ ?_ ?_ hHeld ?_ ?_ ?_; rotate_left; (rintro w' ⟨s0, s1, s2, s3, s4, s5, s6, s7, s8⟩; go_simp; with_reducible rfl); rotate_left; (simp only [Act.put, s1, s2, s3, i64_w, i32_w]; rfl)
                  refine pu 14 101 (bA 25 32767) HT_ ?_ ?_ ?_ ?_ ?_; rotate_left; (intro w'; go_simp; with_reducible rfl); rotate_left; (simp only [Act.put, s1, s2, s3, i64_w, i32_w]; rfl)
                  refine pu 15 102 (bA 25 65535) HT_ ?_ ?_ ?_ ?_ ?_; rotate_left; (intro w'; go_simp; with_reducible rfl); rotate_left; (simp only [Act.put, s1, s2, s3, i64_w, i32_w]; rfl)
                  refine pu 16 103 (bA 25 131071) HT_ ?_ ?_ ?_ ?_ ?_; rotate_left; (intro w'; go_simp; with_reducible rfl); rotate_left; (simp only [Act.put, s1, s2, s3, i64_w, i32_w]; rfl)
                  refine pu 17 104 (bA 25 262143) HT_ ?_ ?_ ?_ ?_ ?_; rotate_left; (intro w'; go_simp; with_reducible rfl); rotate_left; (simp only [Act.put, s1, s2, s3, i64_w, i32_w]; rfl)
                  refine pu 18 105 (bA 25 524287) HT_ ?_ ?_ ?_ ?_ ?_; rotate_left; (intro w'; go_simp; with_reducible rfl); rotate_left; (simp only [Act.put, s1, s2, s3, i64_w, i32_w]; rfl)
                  refine pu 19 106 (bA 25 1048575) HT_ ?_ ?_ ?_ ?_ ?_; rotate_left; (intro w'; go_simp; with_reducible rfl); rotate_left; (simp only [Act.put, s1, s2, s3, i64_w, i32_w]; rfl)
                  refine pu 20 107 (bA 25 2097151) HT_ ?_ ?_ ?_ ?_ ?_; rotate_left; (intro w'; go_simp; with_reducible rfl); rotate_left; (simp only [Act.put, s1, s2, s3, i64_w, i32_w]; rfl)
                  refine pu 22 109 (bA 25 6291455) HT_ ?_ ?_ ?_ ?_ ?_; rotate_left; (intro w'; go_simp; with_reducible rfl); rotate_left; (simp only [Act.put, s1, s2, s3, i64_w, i32_w]; rfl)
                  refine ta 21 108 (bA 25 8388607) HT_ HW_ ?_ ?_ hHeld ?_ ?_ ?_; rotate_left; (rintro w' ⟨s0, s1, s2, s3, s4, s5, s6, s7, s8⟩; go_simp; with_reducible rfl); rotate_left; (simp only [Act.put, s1, s2, s3, i64_w, i32_w]; rfl)
                  refine pu 23 110 (bA 25 16777215) HT_ ?_ ?_ ?_ ?_ ?_; rotate_left; (intro w'; go_simp; with_reducible rfl); rotate_left; (simp only [Act.put, s1, s2, s3, i64_w, i32_w]; rfl)
                  refine pu 24 111 (bA 25 33554431) HT_ ?_ ?_ ?_ ?_ ?_; rotate_left; (intro w'; go_simp; with_reducible rfl); rotate_left; (simp only [Act.put, s1, s2, s3, i64_w, i32_w]; rfl)
                  refine done_ (done_of HT_.out (by kernel_rfl)) ?_
                  try go_wp2
                  go_meet
                  case rel => exact ⟨_, ((((rd_T28 t269 x12_2).f1) != x14_2)), uf, H', ⟨by have := HK1.out; have := HK2.out; first | omega | exact Nat.le_refl _⟩, ⟨by (with_reducible repeat (first | apply Kd.R_alloc | apply Kd.R_drewN | apply Kd.R_drew)); exact HO_9.out⟩, ⟨by (with_reducible repeat (first | refine blk_drewN ?_ _ | refine blk_drew ?_ | refine blk_alloc ?_ _)); exact BK277.out⟩, ⟨by repeat (first | (with_reducible first | exact HB.out | apply below_alloc | apply pw_below_drewN | apply below_drew1 | refine below_set ?_ GE277.out) | exact HB.out)⟩⟩
                 ·rw [if_neg c27] at H
                  have c27b0 : (((rd_T28 t269 x12_2).f0) == (rd l2 x13_1)) = false := beq_eq_false_iff_ne.mpr c27
                  have c27b1 : (((rd_T28 t269 x12_2).f0) != (rd l2 x13_1)) = true := bne_iff_ne.mpr c27
                  have H' := am H
                  clear H
                  try go_wp2
                  have n0_ := am (Kd.R_drew HO_9.out)
                  have n1_ := am (blk_drew BK277.out)
                  have n2_ := am (below_drew1 HB.out)
                  revert n0_ n1_ n2_
                  clear HO_9 BK277 HB
                  intro HO_9 BK277 HB
                  obtain ⟨Ao31, co31, eo31⟩ := Kd.R_slice HO_9.out
                  (first | subst eo31 | (injection eo31 with f1_ f2_ f3_; have f4_ := f1_.symm; have f5_ := f3_.symm; clear f1_ f2_ f3_; subst f4_; subst f5_))
                  have p281 : 0 ≤ (x12_2 : Int) := ud
                  have q281 : x12_2 < (t269.length : Int) := ud
                  obtain ⟨ad281, e281, hx281_0, hx281_1, hx281_2, hx281_3⟩ := at_T28 (Kd.R_reads' HO_9.out).2.2 x12_2 p281 q281
                  cases e281
                  replace p281 := eq_true p281
                  replace q281 := eq_true q281
                  have p282 : 0 ≤ (x13_1 : Int) := ud
                  have q282 : x13_1 < (l2.length : Int) := ud
                  obtain ⟨ad282, e282, hx282_0⟩ := Kd.at_int HR2.out x13_1 p282 q282
                  have hw282_0 := hx282_0
                  obtain rfl : ad279 = ad282 := (by injection e282)
                  replace hx282_0 := bcel HB hx282_0
                  replace p282 := eq_true p282
                  replace q282 := eq_true q282
                  refine start_ (n := 25) (S := fun w' => w'.cell? (ad281.add ((x12_2).toNat * 4)) = some (.int .i64 ((rd_T28 t269 x12_2).f0)) ∧ w'.cell? ⟨(ad281.add ((x12_2).toNat * 4)).block, (ad281.add ((x12_2).toNat * 4)).off + 1, none⟩ = some (.int .i64 ((rd_T28 t269 x12_2).f1)) ∧ w'.cell? ⟨(ad281.add ((x12_2).toNat * 4)).block, (ad281.add ((x12_2).toNat * 4)).off + 2, none⟩ = some (.int .i64 ((rd_T28 t269 x12_2).f2)) ∧ w'.cell? ⟨(ad281.add ((x12_2).toNat * 4)).block, (ad281.add ((x12_2).toNat * 4)).off + 3, none⟩ = some (.int .i64 ((rd_T28 t269 x12_2).f3)) ∧ w'.cell? (ad279.add (x13_1).toNat) = some (.int .i64 (rd l2 x13_1))) (ds := []) #[false, false, false, false, false, false, false, false, false, false, false, false, false, false, false, false, false, false, false, false, false, false, false, false, false] (by kernel_rfl) rfl rfl ⟨hx281_0, hx281_1, hx281_2, hx281_3, (bcel HB hw282_0)⟩ (fun hHeld => ?_); refine with_tabW curtilagelaw15_PlanWhole.tab17 curtilagelaw15_PlanWhole.bits17 (fun HT_ HW_ => ?_)
                  generalize wr.drew = w30 at HO_9 BK277 HB hx281_0 hx281_1 hx281_2 hx281_3 hx282_0 hHeld ⊢
                  refine pu 0 87 (bA 25 1) HT_ ?_ ?_ ?_ ?_ ?_; rotate_left; (intro w'; go_simp; with_reducible rfl); rotate_left; (simp only [Act.put, s1, s2, s3, i64_w, i32_w]; rfl)
                  refine pu 1 88 (bA 25 3) HT_ ?_ ?_ ?_ ?_ ?_; rotate_left; (intro w'; go_simp; with_reducible rfl); rotate_left; (simp only [Act.put, s1, s2, s3, i64_w, i32_w]; rfl)
                  refine pu 2 89 (bA 25 7) HT_ ?_ ?_ ?_ ?_ ?_; rotate_left; (intro w'; go_simp; with_reducible rfl); rotate_left; (simp only [Act.put, s1, s2, s3, i64_w, i32_w]; rfl)
                  refine pu 3 90 (bA 25 15) HT_ ?_ ?_ ?_ ?_ ?_; rotate_left; (intro w'; go_simp; with_reducible rfl); rotate_left; (simp only [Act.put, s1, s2, s3, i64_w, i32_w]; rfl)
                  refine pu 4 91 (bA 25 31) HT_ ?_ ?_ ?_ ?_ ?_; rotate_left; (intro w'; go_simp; with_reducible rfl); rotate_left; (simp only [Act.put, s1, s2, s3, i64_w, i32_w]; rfl)
                  refine pu 5 92 (bA 25 63) HT_ ?_ ?_ ?_ ?_ ?_; rotate_left; (intro w'; go_simp; with_reducible rfl); rotate_left; (simp only [Act.put, s1, s2, s3, i64_w, i32_w]; rfl)
                  refine pu 6 93 (bA 25 127) HT_ ?_ ?_ ?_ ?_ ?_; rotate_left; (intro w'; go_simp; with_reducible rfl); rotate_left; (simp only [Act.put, s1, s2, s3, i64_w, i32_w]; rfl)
                  refine pu 7 94 (bA 25 255) HT_ ?_ ?_ ?_ ?_ ?_; rotate_left; (intro w'; go_simp; with_reducible rfl); rotate_left; (simp only [Act.put, s1, s2, s3, i64_w, i32_w]; rfl)
                  refine pu 8 95 (bA 25 511) HT_ ?_ ?_ ?_ ?_ ?_; rotate_left; (intro w'; go_simp; with_reducible rfl); rotate_left; (simp only [Act.put, s1, s2, s3, i64_w, i32_w]; rfl)
                  refine pu 10 97 (bA 25 1535) HT_ ?_ ?_ ?_ ?_ ?_; rotate_left; (intro w'; go_simp; with_reducible rfl); rotate_left; (simp only [Act.put, s1, s2, s3, i64_w, i32_w]; rfl)
                  refine pu 11 98 (bA 25 3583) HT_ ?_ ?_ ?_ ?_ ?_; rotate_left; (intro w'; go_simp; with_reducible rfl); rotate_left; (simp only [Act.put, s1, s2, s3, i64_w, i32_w]; rfl)
                  refine pu 12 99 (bA 25 7679) HT_ ?_ ?_ ?_ ?_ ?_; rotate_left; (intro w'; go_simp; with_reducible rfl); rotate_left; (simp only [Act.put, s1, s2, s3, i64_w, i32_w]; rfl)
                  refine ta 9 96 (bA 25 8191) HT_ HW_ ?_ ?_ hHeld ?_ ?_ ?_; rotate_left; (rintro w' ⟨s0, s1, s2, s3, s4⟩; go_simp; with_reducible rfl); rotate_left; (simp only [Act.put, s1, s2, s3, i64_w, i32_w]; rfl)
                  refine ta 13 100 (bA 25 16383) HT_ HW_ ?_ ?_ hHeld ?_ ?_ ?_; rotate_left; (rintro w' ⟨s0, s1, s2, s3, s4⟩; go_simp; with_reducible rfl); rotate_left; (simp only [Act.put, s1, s2, s3, i64_w, i32_w]; rfl)
                  refine pu 14 101 (bA 25 32767) HT_ ?_ ?_ ?_ ?_ ?_; rotate_left; (intro w'; go_simp; with_reducible rfl); rotate_left; (simp only [Act.put, s1, s2, s3, i64_w, i32_w]; rfl)
                  refine pu 15 102 (bA 25 65535) HT_ ?_ ?_ ?_ ?_ ?_; rotate_left; (intro w'; go_simp; with_reducible rfl); rotate_left; (simp only [Act.put, s1, s2, s3, i64_w, i32_w]; rfl)
                  refine pu 16 103 (bA 25 131071) HT_ ?_ ?_ ?_ ?_ ?_; rotate_left; (intro w'; go_simp; with_reducible rfl); rotate_left; (simp only [Act.put, s1, s2, s3, i64_w, i32_w]; rfl)
                  refine pn 17 104 (bA 25 262143) HT_ ?_ ?_ ?_; rotate_left; (simp only [Act.put, s1, s2, s3, i64_w, i32_w]; rfl)
                  refine pn 18 105 (bA 25 524287) HT_ ?_ ?_ ?_; rotate_left; (simp only [Act.put, s1, s2, s3, i64_w, i32_w]; rfl)
                  refine pn 19 106 (bA 25 1048575) HT_ ?_ ?_ ?_; rotate_left; (simp only [Act.put, s1, s2, s3, i64_w, i32_w]; rfl)
                  refine pn 20 107 (bA 25 2097151) HT_ ?_ ?_ ?_; rotate_left; (simp only [Act.put, s1, s2, s3, i64_w, i32_w]; rfl)
                  refine pn 21 108 (bA 25 4194303) HT_ ?_ ?_ ?_; rotate_left; (simp only [Act.put, s1, s2, s3, i64_w, i32_w]; rfl)
                  refine pn 22 109 (bA 25 8388607) HT_ ?_ ?_ ?_; rotate_left; (simp only [Act.put, s1, s2, s3, i64_w, i32_w]; rfl)
                  refine pn 23 110 (bA 25 16777215) HT_ ?_ ?_ ?_; rotate_left; (simp only [Act.put, s1, s2, s3, i64_w, i32_w]; rfl)
                  refine pu 24 111 (bA 25 33554431) HT_ ?_ ?_ ?_ ?_ ?_; rotate_left; (intro w'; go_simp; with_reducible rfl); rotate_left; (simp only [Act.put, s1, s2, s3, i64_w, i32_w]; rfl)
                  refine done_ (done_of HT_.out (by kernel_rfl)) ?_
                  try go_wp2
                  go_meet
                  case rel => exact ⟨_, (true), uf, H', ⟨by have := HK1.out; have := HK2.out; first | omega | exact Nat.le_refl _⟩, ⟨by (with_reducible repeat (first | apply Kd.R_alloc | apply Kd.R_drewN | apply Kd.R_drew)); exact HO_9.out⟩, ⟨by (with_reducible repeat (first | refine blk_drewN ?_ _ | refine blk_drew ?_ | refine blk_alloc ?_ _)); exact BK277.out⟩, ⟨by repeat (first | (with_reducible first | exact HB.out | apply below_alloc | apply pw_below_drewN | apply below_drew1 | refine below_set ?_ GE277.out) | exact HB.out)⟩⟩
                ·rw [if_neg c26] at H
                 exact absurd H (by simp)
               ·rw [if_neg c25] at H
                exact absurd H (by simp)
             case rest =>
              clear HC21
              try clear c2
              try clear p2
              try clear q2
              try clear hx2
              try clear c22
              try clear c22b0
              try clear c25
              try clear c25b0
              try clear c26
              try clear c26b0
              try clear c27
              try clear c27b0
              try clear c27b1
              try clear p28
              try clear q28
              try clear hx28
              try clear hx281_0
              try clear hx281_1
              try clear hx281_2
              try clear hx281_3
              try clear hx282_0
              try clear hx283_0
              try clear hx283_1
              try clear hx283_2
              try clear hx283_3
              try clear p281
              try clear p282
              try clear p283
              try clear q281
              try clear q282
              try clear q283
              obtain ⟨kq, x111_20, rfl, HA, HJ20, HO_9, BK277, HB⟩ := hcut
              cases kq with
              | zero => exact absurd HA.out (by simp [curtilagelaw15_PlanWhole.j2])
              | succ kj20 =>
               have H := HA.out
               clear HA
               simp only [curtilagelaw15_PlanWhole.j2] at H
               by_cases c32 : x111_20 = true
               ·subst c32
                have H1 : (some false) = some r := by rw [if_pos rfl] at H; exact H
                clear H
                have H := H1
                clear H1
                exact absurd ((Option.some.inj H).trans HT.out) (by decide)
               ·replace c32 := Bool.eq_false_iff.mpr c32
                subst c32
                have H1 : (if 0 ≤ x13_1 then (if x13_1 < (l2.length : Int) then (if 0 ≤ (rd l2 x13_1) then (if (rd l2 x13_1) < (l0.length : Int) then (if 0 ≤ x14_2 then (if x14_2 < (((rd_T39 l0 (rd l2 x13_1)).f4).length : Int) then (if 0 ≤ ((rd_T44 ((rd_T39 l0 (rd l2 x13_1)).f4) x14_2).f1) then (if ((rd_T44 ((rd_T39 l0 (rd l2 x13_1)).f4) x14_2).f1) < (((rd_T39 l0 (rd l2 x13_1)).f3).length : Int) then (if 0 ≤ x12_2 then (if x12_2 < (t269.length : Int) then (if ((rd_T28 t269 x12_2).f2) < 0 then (if (e0_ l0 l2 x13_1 x14_2).f7 = true then (some false) else (if ((e0_ l0 l2 x13_1 x14_2).f5) = 3 then (curtilagelaw15_PlanWhole.l1 kj20 l0 l2 t267 t269 (wrap64 (x12_2 + 1)) x13_1 (wrap64 (x14_2 + 1))) else (some false))) else (if ((rd_T28 t269 x12_2).f2) ≥ (l0.length : Int) then (curtilagelaw15_PlanWhole.j3 kj20 l0 l2 t267 t269 x12_2 x13_1 x14_2 true ((e0_ l0 l2 x13_1 x14_2).f0) ((e0_ l0 l2 x13_1 x14_2).f1) ((e0_ l0 l2 x13_1 x14_2).f2) ((e0_ l0 l2 x13_1 x14_2).f3) ((e0_ l0 l2 x13_1 x14_2).f4) ((e0_ l0 l2 x13_1 x14_2).f5) ((e0_ l0 l2 x13_1 x14_2).f6) ((e0_ l0 l2 x13_1 x14_2).f7)) else (if ((rd_T28 t269 x12_2).f3) < 0 then (curtilagelaw15_PlanWhole.j3 kj20 l0 l2 t267 t269 x12_2 x13_1 x14_2 true ((e0_ l0 l2 x13_1 x14_2).f0) ((e0_ l0 l2 x13_1 x14_2).f1) ((e0_ l0 l2 x13_1 x14_2).f2) ((e0_ l0 l2 x13_1 x14_2).f3) ((e0_ l0 l2 x13_1 x14_2).f4) ((e0_ l0 l2 x13_1 x14_2).f5) ((e0_ l0 l2 x13_1 x14_2).f6) ((e0_ l0 l2 x13_1 x14_2).f7)) else (if 0 ≤ ((rd_T28 t269 x12_2).f2) then (if ((rd_T28 t269 x12_2).f2) < (l0.length : Int) then (curtilagelaw15_PlanWhole.j3 kj20 l0 l2 t267 t269 x12_2 x13_1 x14_2 (decide (((rd_T28 t269 x12_2).f3) ≥ (((rd_T39 l0 ((rd_T28 t269 x12_2).f2)).f3).length : Int))) ((e0_ l0 l2 x13_1 x14_2).f0) ((e0_ l0 l2 x13_1 x14_2).f1) ((e0_ l0 l2 x13_1 x14_2).f2) ((e0_ l0 l2 x13_1 x14_2).f3) ((e0_ l0 l2 x13_1 x14_2).f4) ((e0_ l0 l2 x13_1 x14_2).f5) ((e0_ l0 l2 x13_1 x14_2).f6) ((e0_ l0 l2 x13_1 x14_2).f7)) else (none)) else (none))))) else (none)) else (none)) else (none)) else (none)) else (none)) else (none)) else (none)) else (none)) else (none)) else (none)) = some r := by rw [if_neg (show ¬ (false = true) by decide)] at H; exact H
                clear H
                have H := H1
                clear H1
                by_cases c33 : 0 ≤ x13_1
                ·rw [if_pos c33] at H
                 have c33b0 : decide (0 ≤ x13_1) = true := decide_eq_true c33
                 clear c33
                 by_cases c34 : x13_1 < (l2.length : Int)
                 ·rw [if_pos c34] at H
                  have c34b0 : decide (x13_1 < (l2.length : Int)) = true := decide_eq_true c34
                  clear c34
                  by_cases c35 : 0 ≤ (rd l2 x13_1)
                  ·rw [if_pos c35] at H
                   have c35b0 : decide (0 ≤ (rd l2 x13_1)) = true := decide_eq_true c35
                   clear c35
                   by_cases c36 : (rd l2 x13_1) < (l0.length : Int)
                   ·rw [if_pos c36] at H
                    have c36b0 : decide ((rd l2 x13_1) < (l0.length : Int)) = true := decide_eq_true c36
                    clear c36
                    by_cases c37 : 0 ≤ x14_2
                    ·rw [if_pos c37] at H
                     have c37b0 : decide (0 ≤ x14_2) = true := decide_eq_true c37
                     clear c37
                     by_cases c38 : x14_2 < (((rd_T39 l0 (rd l2 x13_1)).f4).length : Int)
                     ·rw [if_pos c38] at H
                      have c38b0 : decide (x14_2 < (((rd_T39 l0 (rd l2 x13_1)).f4).length : Int)) = true := decide_eq_true c38
                      clear c38
                      by_cases c39 : 0 ≤ ((rd_T44 ((rd_T39 l0 (rd l2 x13_1)).f4) x14_2).f1)
                      ·rw [if_pos c39] at H
                       have c39b0 : decide (0 ≤ ((rd_T44 ((rd_T39 l0 (rd l2 x13_1)).f4) x14_2).f1)) = true := decide_eq_true c39
                       clear c39
                       by_cases c40 : ((rd_T44 ((rd_T39 l0 (rd l2 x13_1)).f4) x14_2).f1) < (((rd_T39 l0 (rd l2 x13_1)).f3).length : Int)
                       ·rw [if_pos c40] at H
                        have c40b0 : decide (((rd_T44 ((rd_T39 l0 (rd l2 x13_1)).f4) x14_2).f1) < (((rd_T39 l0 (rd l2 x13_1)).f3).length : Int)) = true := decide_eq_true c40
                        clear c40
                        by_cases c41 : 0 ≤ x12_2
                        ·rw [if_pos c41] at H
                         have c41b0 : decide (0 ≤ x12_2) = true := decide_eq_true c41
                         clear c41
                         by_cases c42 : x12_2 < (t269.length : Int)
                         ·rw [if_pos c42] at H
                          have c42b0 : decide (x12_2 < (t269.length : Int)) = true := decide_eq_true c42
                          clear c42
                          by_cases c43 : ((rd_T28 t269 x12_2).f2) < 0
                          ·rw [if_pos c43] at H
                           have c43b0 : decide (((rd_T28 t269 x12_2).f2) < 0) = true := decide_eq_true c43
                           clear c43
                           obtain ⟨bq44, hbq44⟩ : ∃ b_ : Bool, b_ = ((e0_ l0 l2 x13_1 x14_2).f7) := ⟨_, rfl⟩
                           replace H : (if bq44 = true then (some false) else (if ((e0_ l0 l2 x13_1 x14_2).f5) = 3 then (curtilagelaw15_PlanWhole.l1 kj20 l0 l2 t267 t269 (wrap64 (x12_2 + 1)) x13_1 (wrap64 (x14_2 + 1))) else (some false))) = some r := by rw [← hbq44] at H; exact H
                           have Nbq44 := am hbq44
                           clear hbq44
                           by_cases c45 : bq44 = true
                           ·subst c45
                            have H1 : (some false) = some r := by rw [if_pos rfl] at H; exact H
                            clear H
                            have H := H1
                            clear H1
                            exact absurd ((Option.some.inj H).trans HT.out) (by decide)
                           ·replace c45 := Bool.eq_false_iff.mpr c45
                            subst c45
                            have H1 : (if ((e0_ l0 l2 x13_1 x14_2).f5) = 3 then (curtilagelaw15_PlanWhole.l1 kj20 l0 l2 t267 t269 (wrap64 (x12_2 + 1)) x13_1 (wrap64 (x14_2 + 1))) else (some false)) = some r := by rw [if_neg (show ¬ (false = true) by decide)] at H; exact H
                            clear H
                            have H := H1
                            clear H1
                            by_cases c59 : ((e0_ l0 l2 x13_1 x14_2).f5) = 3
                            ·rw [if_pos c59] at H
                             have c59b0 : (((e0_ l0 l2 x13_1 x14_2).f5) == 3) = true := beq_iff_eq.mpr c59
                             have c59b1 : (((e0_ l0 l2 x13_1 x14_2).f5) != 3) = false := bne_eq_false_iff_eq.mpr c59
                             clear c59
                             have H' := am H
                             clear H
                             try go_wp2
                             have n0_ := am (Kd.R_drew HO_9.out)
                             have n1_ := am (blk_drew BK277.out)
                             have n2_ := am (below_drew1 HB.out)
                             revert n0_ n1_ n2_
                             clear HO_9 BK277 HB
                             intro HO_9 BK277 HB
                             have p284 : 0 ≤ (x13_1 : Int) := ud
                             have q284 : x13_1 < (l2.length : Int) := ud
                             obtain ⟨ad284, e284, hx284_0⟩ := Kd.at_int HR2.out x13_1 p284 q284
                             have hw284_0 := hx284_0
                             obtain rfl : ad279 = ad284 := (by injection e284)
                             replace hx284_0 := bcel HB hx284_0
                             replace p284 := eq_true p284
                             replace q284 := eq_true q284
                             have p285 : 0 ≤ ((rd l2 x13_1) : Int) := ud
                             have q285 : (rd l2 x13_1) < (l0.length : Int) := ud
                             obtain ⟨ad285, A285_1, c285_1, A285_2, c285_2, A285_3, c285_3, A285_4, c285_4, A285_5, c285_5, A285_6, c285_6, e285, hx285_0, hx285_1, hx285_2, hx285_3, hx285_4, hx285_5, hx285_6, hl285_1, hi285_1, hl285_2, hi285_2, hl285_3, hi285_3, hl285_4, hi285_4, hl285_5, hi285_5, hl285_6, hi285_6⟩ := at_T39 HR0.out (rd l2 x13_1) p285 q285
                             have hw285_6 := hx285_6
                             have hw285_5 := hx285_5
                             have hw285_4 := hx285_4
                             have hw285_3 := hx285_3
                             have hw285_2 := hx285_2
                             have hw285_1 := hx285_1
                             have hw285_0 := hx285_0
                             obtain rfl : ad280 = ad285 := (by injection e285)
                             replace hx285_0 := bcel HB hx285_0
                             replace hx285_1 := bcel HB hx285_1
                             replace hx285_2 := bcel HB hx285_2
                             replace hx285_3 := bcel HB hx285_3
                             replace hx285_4 := bcel HB hx285_4
                             replace hx285_5 := bcel HB hx285_5
                             replace hx285_6 := bcel HB hx285_6
                             have HR285_1 := am hi285_1
                             have HC285_1 := am hl285_1
                             clear hi285_1 hl285_1
                             have HR285_2 := am hi285_2
                             have HC285_2 := am hl285_2
                             clear hi285_2 hl285_2
                             have HR285_3 := am hi285_3
                             have HC285_3 := am hl285_3
                             clear hi285_3 hl285_3
                             have HR285_4 := am hi285_4
                             have HC285_4 := am hl285_4
                             clear hi285_4 hl285_4
                             have HR285_5 := am hi285_5
                             have HC285_5 := am hl285_5
                             clear hi285_5 hl285_5
                             have HR285_6 := am hi285_6
                             have HC285_6 := am hl285_6
                             clear hi285_6 hl285_6
                             replace p285 := eq_true p285
                             replace q285 := eq_true q285
                             have p286 : 0 ≤ (x13_1 : Int) := ud
                             have q286 : x13_1 < (l2.length : Int) := ud
                             obtain ⟨ad286, e286, hx286_0⟩ := Kd.at_int HR2.out x13_1 p286 q286
                             have hw286_0 := hx286_0
                             obtain rfl : ad279 = ad286 := (by injection e286)
                             replace hx286_0 := bcel HB hx286_0
                             replace p286 := eq_true p286
                             replace q286 := eq_true q286
                             have p287 : 0 ≤ ((rd l2 x13_1) : Int) := ud
                             have q287 : (rd l2 x13_1) < (l0.length : Int) := ud
                             obtain ⟨ad287, A287_1, c287_1, A287_2, c287_2, A287_3, c287_3, A287_4, c287_4, A287_5, c287_5, A287_6, c287_6, e287, hx287_0, hx287_1, hx287_2, hx287_3, hx287_4, hx287_5, hx287_6, hl287_1, hi287_1, hl287_2, hi287_2, hl287_3, hi287_3, hl287_4, hi287_4, hl287_5, hi287_5, hl287_6, hi287_6⟩ := at_T39 HR0.out (rd l2 x13_1) p287 q287
                             have hw287_6 := hx287_6
                             have hw287_5 := hx287_5
                             have hw287_4 := hx287_4
                             have hw287_3 := hx287_3
                             have hw287_2 := hx287_2
                             have hw287_1 := hx287_1
                             have hw287_0 := hx287_0
                             obtain rfl : ad280 = ad287 := (by injection e287)
                             replace hx287_0 := bcel HB hx287_0
                             replace hx287_1 := bcel HB hx287_1
                             replace hx287_2 := bcel HB hx287_2
                             replace hx287_3 := bcel HB hx287_3
                             replace hx287_4 := bcel HB hx287_4
                             replace hx287_5 := bcel HB hx287_5
                             replace hx287_6 := bcel HB hx287_6
                             have HR287_1 := am hi287_1
                             have HC287_1 := am hl287_1
                             clear hi287_1 hl287_1
                             have HR287_2 := am hi287_2
                             have HC287_2 := am hl287_2
                             clear hi287_2 hl287_2
                             have HR287_3 := am hi287_3
                             have HC287_3 := am hl287_3
                             clear hi287_3 hl287_3
                             have HR287_4 := am hi287_4
                             have HC287_4 := am hl287_4
                             clear hi287_4 hl287_4
                             have HR287_5 := am hi287_5
                             have HC287_5 := am hl287_5
                             clear hi287_5 hl287_5
                             have HR287_6 := am hi287_6
                             have HC287_6 := am hl287_6
                             clear hi287_6 hl287_6
                             replace p287 := eq_true p287
                             replace q287 := eq_true q287
                             have ea_ := Option.some.inj (hx285_1.symm.trans hx287_1)
                             injection ea_ with ea_ en_ ec_
                             subst ea_
                             subst ec_
                             clear en_
                             have ea_ := Option.some.inj (hx285_2.symm.trans hx287_2)
                             injection ea_ with ea_ en_ ec_
                             subst ea_
                             subst ec_
                             clear en_
                             have ea_ := Option.some.inj (hx285_3.symm.trans hx287_3)
                             injection ea_ with ea_ en_ ec_
                             subst ea_
                             subst ec_
                             clear en_
                             have ea_ := Option.some.inj (hx285_4.symm.trans hx287_4)
                             injection ea_ with ea_ en_ ec_
                             subst ea_
                             subst ec_
                             clear en_
                             have ea_ := Option.some.inj (hx285_5.symm.trans hx287_5)
                             injection ea_ with ea_ en_ ec_
                             subst ea_
                             subst ec_
                             clear en_
                             have ea_ := Option.some.inj (hx285_6.symm.trans hx287_6)
                             injection ea_ with ea_ en_ ec_
                             subst ea_
                             subst ec_
                             clear en_
                             have p288 : 0 ≤ (x14_2 : Int) := ud
                             have q288 : x14_2 < (((rd_T39 l0 (rd l2 x13_1)).f4).length : Int) := ud
                             obtain ⟨ad288, e288, hx288_0, hx288_1⟩ := at_T44 HR287_4.out x14_2 p288 q288
                             have hw288_1 := hx288_1
                             have hw288_0 := hx288_0
                             cases e288
                             replace hx288_0 := bcel HB hx288_0
                             replace hx288_1 := bcel HB hx288_1
                             replace p288 := eq_true p288
                             replace q288 := eq_true q288
                             have p289 : 0 ≤ (((rd_T44 ((rd_T39 l0 (rd l2 x13_1)).f4) x14_2).f1) : Int) := ud
                             have q289 : ((rd_T44 ((rd_T39 l0 (rd l2 x13_1)).f4) x14_2).f1) < (((rd_T39 l0 (rd l2 x13_1)).f3).length : Int) := ud
                             obtain ⟨ad289, e289, hx289_0, hx289_1, hx289_2, hx289_3, hx289_4, hx289_5, hx289_6, hx289_7⟩ := at_T42 HR285_3.out ((rd_T44 ((rd_T39 l0 (rd l2 x13_1)).f4) x14_2).f1) p289 q289
                             have hw289_7 := hx289_7
                             have hw289_6 := hx289_6
                             have hw289_5 := hx289_5
                             have hw289_4 := hx289_4
                             have hw289_3 := hx289_3
                             have hw289_2 := hx289_2
                             have hw289_1 := hx289_1
                             have hw289_0 := hx289_0
                             (try rw [← Nbq44.out] at hx289_7)
                             (try rw [← Nbq44.out] at hw289_7)
                             cases e289
                             replace hx289_0 := bcel HB hx289_0
                             replace hx289_1 := bcel HB hx289_1
                             replace hx289_2 := bcel HB hx289_2
                             replace hx289_3 := bcel HB hx289_3
                             replace hx289_4 := bcel HB hx289_4
                             replace hx289_5 := bcel HB hx289_5
                             replace hx289_6 := bcel HB hx289_6
                             replace hx289_7 := bcel HB hx289_7
                             replace p289 := eq_true p289
                             replace q289 := eq_true q289
                             refine start_ (n := 24) (S := fun w' => w'.cell? (ad279.add (x13_1).toNat) = some (.int .i64 (rd l2 x13_1)) ∧ w'.cell? (ad280.add (((rd l2 x13_1)).toNat * 7)) = some (.string ((rd_T39 l0 (rd l2 x13_1)).f0)) ∧ w'.cell? ⟨(ad280.add (((rd l2 x13_1)).toNat * 7)).block, (ad280.add (((rd l2 x13_1)).toNat * 7)).off + 1, none⟩ = some (.slice A285_1 ((rd_T39 l0 (rd l2 x13_1)).f1).length c285_1) ∧ w'.cell? ⟨(ad280.add (((rd l2 x13_1)).toNat * 7)).block, (ad280.add (((rd l2 x13_1)).toNat * 7)).off + 2, none⟩ = some (.slice A285_2 ((rd_T39 l0 (rd l2 x13_1)).f2).length c285_2) ∧ w'.cell? ⟨(ad280.add (((rd l2 x13_1)).toNat * 7)).block, (ad280.add (((rd l2 x13_1)).toNat * 7)).off + 3, none⟩ = some (.slice (some ad289) ((rd_T39 l0 (rd l2 x13_1)).f3).length c285_3) ∧ w'.cell? ⟨(ad280.add (((rd l2 x13_1)).toNat * 7)).block, (ad280.add (((rd l2 x13_1)).toNat * 7)).off + 4, none⟩ = some (.slice (some ad288) ((rd_T39 l0 (rd l2 x13_1)).f4).length c285_4) ∧ w'.cell? ⟨(ad280.add (((rd l2 x13_1)).toNat * 7)).block, (ad280.add (((rd l2 x13_1)).toNat * 7)).off + 5, none⟩ = some (.slice A285_5 ((rd_T39 l0 (rd l2 x13_1)).f5).length c285_5) ∧ w'.cell? ⟨(ad280.add (((rd l2 x13_1)).toNat * 7)).block, (ad280.add (((rd l2 x13_1)).toNat * 7)).off + 6, none⟩ = some (.slice A285_6 ((rd_T39 l0 (rd l2 x13_1)).f6).length c285_6) ∧ w'.cell? (ad279.add (x13_1).toNat) = some (.int .i64 (rd l2 x13_1)) ∧ w'.cell? (ad280.add (((rd l2 x13_1)).toNat * 7)) = some (.string ((rd_T39 l0 (rd l2 x13_1)).f0)) ∧ w'.cell? ⟨(ad280.add (((rd l2 x13_1)).toNat * 7)).block, (ad280.add (((rd l2 x13_1)).toNat * 7)).off + 1, none⟩ = some (.slice A285_1 ((rd_T39 l0 (rd l2 x13_1)).f1).length c285_1) ∧ w'.cell? ⟨(ad280.add (((rd l2 x13_1)).toNat * 7)).block, (ad280.add (((rd l2 x13_1)).toNat * 7)).off + 2, none⟩ = some (.slice A285_2 ((rd_T39 l0 (rd l2 x13_1)).f2).length c285_2) ∧ w'.cell? ⟨(ad280.add (((rd l2 x13_1)).toNat * 7)).block, (ad280.add (((rd l2 x13_1)).toNat * 7)).off + 3, none⟩ = some (.slice (some ad289) ((rd_T39 l0 (rd l2 x13_1)).f3).length c285_3) ∧ w'.cell? ⟨(ad280.add (((rd l2 x13_1)).toNat * 7)).block, (ad280.add (((rd l2 x13_1)).toNat * 7)).off + 4, none⟩ = some (.slice (some ad288) ((rd_T39 l0 (rd l2 x13_1)).f4).length c285_4) ∧ w'.cell? ⟨(ad280.add (((rd l2 x13_1)).toNat * 7)).block, (ad280.add (((rd l2 x13_1)).toNat * 7)).off + 5, none⟩ = some (.slice A285_5 ((rd_T39 l0 (rd l2 x13_1)).f5).length c285_5) ∧ w'.cell? ⟨(ad280.add (((rd l2 x13_1)).toNat * 7)).block, (ad280.add (((rd l2 x13_1)).toNat * 7)).off + 6, none⟩ = some (.slice A285_6 ((rd_T39 l0 (rd l2 x13_1)).f6).length c285_6) ∧ w'.cell? (ad288.add ((x14_2).toNat * 2)) = some (.int .u64 ((rd_T44 ((rd_T39 l0 (rd l2 x13_1)).f4) x14_2).f0)) ∧ w'.cell? ⟨(ad288.add ((x14_2).toNat * 2)).block, (ad288.add ((x14_2).toNat * 2)).off + 1, none⟩ = some (.int .i64 ((rd_T44 ((rd_T39 l0 (rd l2 x13_1)).f4) x14_2).f1)) ∧ w'.cell? (ad289.add ((((rd_T44 ((rd_T39 l0 (rd l2 x13_1)).f4) x14_2).f1)).toNat * 8)) = some (.string ((e0_ l0 l2 x13_1 x14_2).f0)) ∧ w'.cell? ⟨(ad289.add ((((rd_T44 ((rd_T39 l0 (rd l2 x13_1)).f4) x14_2).f1)).toNat * 8)).block, (ad289.add ((((rd_T44 ((rd_T39 l0 (rd l2 x13_1)).f4) x14_2).f1)).toNat * 8)).off + 1, none⟩ = some (.string ((e0_ l0 l2 x13_1 x14_2).f1)) ∧ w'.cell? ⟨(ad289.add ((((rd_T44 ((rd_T39 l0 (rd l2 x13_1)).f4) x14_2).f1)).toNat * 8)).block, (ad289.add ((((rd_T44 ((rd_T39 l0 (rd l2 x13_1)).f4) x14_2).f1)).toNat * 8)).off + 2, none⟩ = some (.int .u64 ((e0_ l0 l2 x13_1 x14_2).f2)) ∧ w'.cell? ⟨(ad289.add ((((rd_T44 ((rd_T39 l0 (rd l2 x13_1)).f4) x14_2).f1)).toNat * 8)).block, (ad289.add ((((rd_T44 ((rd_T39 l0 (rd l2 x13_1)).f4) x14_2).f1)).toNat * 8)).off + 3, none⟩ = some (.int .u64 ((e0_ l0 l2 x13_1 x14_2).f3)) ∧ w'.cell? ⟨(ad289.add ((((rd_T44 ((rd_T39 l0 (rd l2 x13_1)).f4) x14_2).f1)).toNat * 8)).block, (ad289.add ((((rd_T44 ((rd_T39 l0 (rd l2 x13_1)).f4) x14_2).f1)).toNat * 8)).off + 4, none⟩ = some (.int .i64 ((e0_ l0 l2 x13_1 x14_2).f4)) ∧ w'.cell? ⟨(ad289.add ((((rd_T44 ((rd_T39 l0 (rd l2 x13_1)).f4) x14_2).f1)).toNat * 8)).block, (ad289.add ((((rd_T44 ((rd_T39 l0 (rd l2 x13_1)).f4) x14_2).f1)).toNat * 8)).off + 5, none⟩ = some (.int .i64 ((e0_ l0 l2 x13_1 x14_2).f5)) ∧ w'.cell? ⟨(ad289.add ((((rd_T44 ((rd_T39 l0 (rd l2 x13_1)).f4) x14_2).f1)).toNat * 8)).block, (ad289.add ((((rd_T44 ((rd_T39 l0 (rd l2 x13_1)).f4) x14_2).f1)).toNat * 8)).off + 6, none⟩ = some (.int .i64 ((e0_ l0 l2 x13_1 x14_2).f6)) ∧ w'.cell? ⟨(ad289.add ((((rd_T44 ((rd_T39 l0 (rd l2 x13_1)).f4) x14_2).f1)).toNat * 8)).block, (ad289.add ((((rd_T44 ((rd_T39 l0 (rd l2 x13_1)).f4) x14_2).f1)).toNat * 8)).off + 7, none⟩ = some (.bool false)) (ds := []) #[false, false, false, false, false, false, false, false, false, false, false, false, false, false, false, false, false, false, false, false, false, false, false, false] (by kernel_rfl) rfl rfl ⟨(bcel HB hw284_0), (bcel HB hw285_0), (bcel HB hw285_1), (bcel HB hw285_2), (bcel HB hw285_3), (bcel HB hw285_4), (bcel HB hw285_5), (bcel HB hw285_6), (bcel HB hw286_0), (bcel HB hw287_0), (bcel HB hw287_1), (bcel HB hw287_2), (bcel HB hw287_3), (bcel HB hw287_4), (bcel HB hw287_5), (bcel HB hw287_6), (bcel HB hw288_0), (bcel HB hw288_1), (bcel HB hw289_0), (bcel HB hw289_1), (bcel HB hw289_2), (bcel HB hw289_3), (bcel HB hw289_4), (bcel HB hw289_5), (bcel HB hw289_6), (bcel HB hw289_7)⟩ (fun hHeld => ?_); refine with_tabW curtilagelaw15_PlanWhole.tab19 curtilagelaw15_PlanWhole.bits19 (fun HT_ HW_ => ?_)
                             generalize wc.drew = w60 at HO_9 BK277 HB HR285_1 HR285_2 HR285_3 HR285_4 HR285_5 HR285_6 HR287_1 HR287_2 HR287_3 HR287_4 HR287_5 HR287_6 hx284_0 hx285_0 hx285_1 hx285_2 hx285_3 hx285_4 hx285_5 hx285_6 hx286_0 hx287_0 hx287_1 hx287_2 hx287_3 hx287_4 hx287_5 hx287_6 hx288_0 hx288_1 hx289_0 hx289_1 hx289_2 hx289_3 hx289_4 hx289_5 hx289_6 hx289_7 hHeld ⊢
                             refine pu 0 112 (bA 24 1) HT_ ?_ ?_ ?_ ?_ ?_; rotate_left; (intro w'; go_simp; with_reducible rfl); rotate_left; (simp only [Act.put, s1, s2, s3, i64_w, i32_w]; rfl)
                             refine pu 1 113 (bA 24 3) HT_ ?_ ?_ ?_ ?_ ?_; rotate_left; (intro w'; go_simp; with_reducible rfl); rotate_left; (simp only [Act.put, s1, s2, s3, i64_w, i32_w]; rfl)
                             refine pu 2 114 (bA 24 7) HT_ ?_ ?_ ?_ ?_ ?_; rotate_left; (intro w'; go_simp; with_reducible rfl); rotate_left; (simp only [Act.put, s1, s2, s3, i64_w, i32_w]; rfl)
                             refine pu 3 115 (bA 24 15) HT_ ?_ ?_ ?_ ?_ ?_; rotate_left; (intro w'; go_simp; with_reducible rfl); rotate_left; (simp only [Act.put, s1, s2, s3, i64_w, i32_w]; rfl)
                             refine pu 8 120 (bA 24 271) HT_ ?_ ?_ ?_ ?_ ?_; rotate_left; (intro w'; go_simp; with_reducible rfl); rotate_left; (simp only [Act.put, s1, s2, s3, i64_w, i32_w]; rfl)
                             refine pu 9 121 (bA 24 783) HT_ ?_ ?_ ?_ ?_ ?_; rotate_left; (intro w'; go_simp; with_reducible rfl); rotate_left; (simp only [Act.put, s1, s2, s3, i64_w, i32_w]; rfl)
                             refine pu 10 122 (bA 24 1807) HT_ ?_ ?_ ?_ ?_ ?_; rotate_left; (intro w'; go_simp; with_reducible rfl); rotate_left; (simp only [Act.put, s1, s2, s3, i64_w, i32_w]; rfl)
                             refine pu 11 123 (bA 24 3855) HT_ ?_ ?_ ?_ ?_ ?_; rotate_left; (intro w'; go_simp; with_reducible rfl); rotate_left; (simp only [Act.put, s1, s2, s3, i64_w, i32_w]; rfl)
                             refine pu 16 128 (bA 24 69391) HT_ ?_ ?_ ?_ ?_ ?_; rotate_left; (intro w'; go_simp; with_reducible rfl); rotate_left; (simp only [Act.put, s1, s2, s3, i64_w, i32_w]; rfl)
                             refine ta 4 116 (bA 24 69407) HT_ HW_ ?_ ?_ hHeld ?_ ?_ ?_; rotate_left; (rintro w' ⟨s0, s1, s2, s3, s4, s5, s6, s7, s8, s9, s10, s11, s12, s13, s14, s15, s16, s17, s18, s19, s20, s21, s22, s23, s24, s25⟩; go_simp; with_reducible rfl); rotate_left; (simp only [Act.put, s1, s2, s3, i64_w, i32_w]; rfl)
                             refine pu 5 117 (bA 24 69439) HT_ ?_ ?_ ?_ ?_ ?_; rotate_left; (intro w'; go_simp; with_reducible rfl); rotate_left; (simp only [Act.put, s1, s2, s3, i64_w, i32_w]; rfl)
                             refine pu 6 118 (bA 24 69503) HT_ ?_ ?_ ?_ ?_ ?_; rotate_left; (intro w'; go_simp; with_reducible rfl); rotate_left; (simp only [Act.put, s1, s2, s3, i64_w, i32_w]; rfl)
                             refine ta 7 119 (bA 24 69631) HT_ HW_ ?_ ?_ hHeld ?_ ?_ ?_; rotate_left; (rintro w' ⟨s0, s1, s2, s3, s4, s5, s6, s7, s8, s9, s10, s11, s12, s13, s14, s15, s16, s17, s18, s19, s20, s21, s22, s23, s24, s25⟩; go_simp; with_reducible rfl); rotate_left; (simp only [Act.put, s1, s2, s3, i64_w, i32_w]; rfl)
                             refine ta 12 124 (bA 24 73727) HT_ HW_ ?_ ?_ hHeld ?_ ?_ ?_; rotate_left; (rintro w' ⟨s0, s1, s2, s3, s4, s5, s6, s7, s8, s9, s10, s11, s12, s13, s14, s15, s16, s17, s18, s19, s20, s21, s22, s23, s24, s25⟩; go_simp; with_reducible rfl); rotate_left; (simp only [Act.put, s1, s2, s3, i64_w, i32_w]; rfl)
                             refine pu 13 125 (bA 24 81919) HT_ ?_ ?_ ?_ ?_ ?_; rotate_left; (intro w'; go_simp; with_reducible rfl); rotate_left; (simp only [Act.put, s1, s2, s3, i64_w, i32_w]; rfl)
                             refine pu 14 126 (bA 24 98303) HT_ ?_ ?_ ?_ ?_ ?_; rotate_left; (intro w'; go_simp; with_reducible rfl); rotate_left; (simp only [Act.put, s1, s2, s3, i64_w, i32_w]; rfl)
                             refine ta 15 127 (bA 24 131071) HT_ HW_ ?_ ?_ hHeld ?_ ?_ ?_; rotate_left; (rintro w' ⟨s0, s1, s2, s3, s4, s5, s6, s7, s8, s9, s10, s11, s12, s13, s14, s15, s16, s17, s18, s19, s20, s21, s22, s23, s24, s25⟩; go_simp; with_reducible rfl); rotate_left; (simp only [Act.put, s1, s2, s3, i64_w, i32_w]; rfl)
                             refine pu 17 129 (bA 24 262143) HT_ ?_ ?_ ?_ ?_ ?_; rotate_left; (intro w'; go_simp; with_reducible rfl); rotate_left; (simp only [Act.put, s1, s2, s3, i64_w, i32_w]; rfl)
                             refine pu 18 130 (bA 24 524287) HT_ ?_ ?_ ?_ ?_ ?_; rotate_left; (intro w'; go_simp; with_reducible rfl); rotate_left; (simp only [Act.put, s1, s2, s3, i64_w, i32_w]; rfl)
                             refine ta 19 131 (bA 24 1048575) HT_ HW_ ?_ ?_ hHeld ?_ ?_ ?_; rotate_left; (rintro w' ⟨s0, s1, s2, s3, s4, s5, s6, s7, s8, s9, s10, s11, s12, s13, s14, s15, s16, s17, s18, s19, s20, s21, s22, s23, s24, s25⟩; go_simp; with_reducible rfl); rotate_left; (simp only [Act.put, s1, s2, s3, i64_w, i32_w]; rfl)
                             refine pu 20 132 (bA 24 2097151) HT_ ?_ ?_ ?_ ?_ ?_; rotate_left; (intro w'; go_simp; with_reducible rfl); rotate_left; (simp only [Act.put, s1, s2, s3, i64_w, i32_w]; rfl)
                             refine ta 21 133 (bA 24 4194303) HT_ HW_ ?_ ?_ hHeld ?_ ?_ ?_; rotate_left; (rintro w' ⟨s0, s1, s2, s3, s4, s5, s6, s7, s8, s9, s10, s11, s12, s13, s14, s15, s16, s17, s18, s19, s20, s21, s22, s23, s24, s25⟩; go_simp; with_reducible rfl); rotate_left; (simp only [Act.put, s1, s2, s3, i64_w, i32_w]; rfl)
                             refine one_ (i := 22) (N := some 15) #[true, true, true, true, true, true, true, true, true, true, true, true, true, true, true, true, true, true, true, true, true, true, true, false] rfl rfl (one_of HT_.out (by kernel_rfl)) (by decide) (fun K hK => ?_)
                             refine box_step ?hg (N := 15) ?hd (cs := #[.string (⟨#[]⟩ : ByteArray), .string (⟨#[]⟩ : ByteArray), .int .u64 0, .int .u64 0, .int .i64 0, .int .i64 0, .int .i64 0, .bool false]) (t := 42) ?hr ?_; (case hd => rfl); (case hg => rfl); (case hr => first | (go_simp; done) | (go_simp; rfl))
                             intro gb290 hg w61 hbox hb
                             have n0_ := am (Kd.R_below (ua HO_9.out) hb)
                             have n1_ := am (blk_below (g := gb277) (o := .cells #[.int .i64 t272, .int .i64 t273, .int .i64 t274, .int .i64 t275] 28 (0, 0)) (ub BK277.out) hb)
                             have n2_ := am (below_step (uc HB.out) hb)
                             have n3_ := am (hbox)
                             have n4_ := am ((by rw [hg]; exact (below_size (uc HB.out)) : w.heap.size ≤ gb290))
                             have n5_ := am ((by rw [hg]; exact (below_size (uc HB.out)) : w.heap.size ≤ gb290))
                             have n6_ := am ((by rw [hg]; exact Nat.ne_of_lt (blk_lt (g := gb277) (o := .cells #[.int .i64 t272, .int .i64 t273, .int .i64 t274, .int .i64 t275] 28 (0, 0)) (ub BK277.out)) : gb277 ≠ gb290))
                             have n7_ := am ((by rw [hg]; exact Nat.ne_of_gt (blk_lt (g := gb277) (o := .cells #[.int .i64 t272, .int .i64 t273, .int .i64 t274, .int .i64 t275] 28 (0, 0)) (ub BK277.out)) : gb290 ≠ gb277))
                             revert n0_ n1_ n2_ n3_ n4_ n5_ n6_ n7_
                             clear HO_9 BK277 HB
                             intro HO_9 BK277 HB BK290 GW290 GE290 NB277_290 NB290_277
                             clear hb hbox hg
                             refine hK.out _ _ ⟨(bcel HB hw284_0), (bcel HB hw285_0), (bcel HB hw285_1), (bcel HB hw285_2), (bcel HB hw285_3), (bcel HB hw285_4), (bcel HB hw285_5), (bcel HB hw285_6), (bcel HB hw286_0), (bcel HB hw287_0), (bcel HB hw287_1), (bcel HB hw287_2), (bcel HB hw287_3), (bcel HB hw287_4), (bcel HB hw287_5), (bcel HB hw287_6), (bcel HB hw288_0), (bcel HB hw288_1), (bcel HB hw289_0), (bcel HB hw289_1), (bcel HB hw289_2), (bcel HB hw289_3), (bcel HB hw289_4), (bcel HB hw289_5), (bcel HB hw289_6), (bcel HB hw289_7)⟩ (fun hHeld => ?_)
                             clear hK K
                             refine norm_ (a' := ?_) ?_ ?_
                             rotate_left
                             ·show Act.put _ (some 15) _ = _
                              simp only [Act.put, List.setIfInBounds_toArray, List.set_cons_zero, List.set_cons_succ, i64_w, i32_w]
                              rfl
                             refine one_ (i := 23) (N := none) #[true, true, true, true, true, true, true, true, true, true, true, true, true, true, true, true, true, true, true, true, true, true, true, true] rfl rfl (one_of HT_.out (by kernel_rfl)) (by decide) (fun K hK => ?_)
                             have hs62 : w61.cell? ⟨gb290, 0, none⟩ = some (.string (⟨#[]⟩ : ByteArray)) := (blk_cell BK290.out 0).trans rfl
                             have hfs62 := blk_frozen BK290.out 0
                             have hns62_0 := NB277_290.out
                             have hms62_0 := NB290_277.out
                             have hs63 : w61.cell? ⟨gb290, 1, none⟩ = some (.string (⟨#[]⟩ : ByteArray)) := (blk_cell BK290.out 1).trans rfl
                             have hfs63 := blk_frozen BK290.out 1
                             have hns63_0 := NB277_290.out
                             have hms63_0 := NB290_277.out
                             have hs64 : w61.cell? ⟨gb290, 2, none⟩ = some (.int .u64 0) := (blk_cell BK290.out 2).trans rfl
                             have hfs64 := blk_frozen BK290.out 2
                             have hns64_0 := NB277_290.out
                             have hms64_0 := NB290_277.out
                             have hs65 : w61.cell? ⟨gb290, 3, none⟩ = some (.int .u64 0) := (blk_cell BK290.out 3).trans rfl
                             have hfs65 := blk_frozen BK290.out 3
                             have hns65_0 := NB277_290.out
                             have hms65_0 := NB290_277.out
                             have hs66 : w61.cell? ⟨gb290, 4, none⟩ = some (.int .i64 0) := (blk_cell BK290.out 4).trans rfl
                             have hfs66 := blk_frozen BK290.out 4
                             have hns66_0 := NB277_290.out
                             have hms66_0 := NB290_277.out
                             have hs67 : w61.cell? ⟨gb290, 5, none⟩ = some (.int .i64 0) := (blk_cell BK290.out 5).trans rfl
                             have hfs67 := blk_frozen BK290.out 5
                             have hns67_0 := NB277_290.out
                             have hms67_0 := NB290_277.out
                             have hs68 : w61.cell? ⟨gb290, 6, none⟩ = some (.int .i64 0) := (blk_cell BK290.out 6).trans rfl
                             have hfs68 := blk_frozen BK290.out 6
                             have hns68_0 := NB277_290.out
                             have hms68_0 := NB290_277.out
                             have hs69 : w61.cell? ⟨gb290, 7, none⟩ = some (.bool false) := (blk_cell BK290.out 7).trans (by first | with_reducible rfl | (rw [← Nbq44.out]; rfl) | rfl)
                             have hfs69 := blk_frozen BK290.out 7
                             have hns69_0 := NB277_290.out
                             have hms69_0 := NB290_277.out
                             refine skip_box [.string ((e0_ l0 l2 x13_1 x14_2).f0), .string ((e0_ l0 l2 x13_1 x14_2).f1), .int .u64 ((e0_ l0 l2 x13_1 x14_2).f2), .int .u64 ((e0_ l0 l2 x13_1 x14_2).f3), .int .i64 ((e0_ l0 l2 x13_1 x14_2).f4), .int .i64 ((e0_ l0 l2 x13_1 x14_2).f5), .int .i64 ((e0_ l0 l2 x13_1 x14_2).f6), .bool false] (w1 := ((((((((w61.setCell ⟨gb290, 0, none⟩ (.string ((e0_ l0 l2 x13_1 x14_2).f0))).setCell ⟨gb290, 1, none⟩ (.string ((e0_ l0 l2 x13_1 x14_2).f1))).setCell ⟨gb290, 2, none⟩ (.int .u64 ((e0_ l0 l2 x13_1 x14_2).f2))).setCell ⟨gb290, 3, none⟩ (.int .u64 ((e0_ l0 l2 x13_1 x14_2).f3))).setCell ⟨gb290, 4, none⟩ (.int .i64 ((e0_ l0 l2 x13_1 x14_2).f4))).setCell ⟨gb290, 5, none⟩ (.int .i64 ((e0_ l0 l2 x13_1 x14_2).f5))).setCell ⟨gb290, 6, none⟩ (.int .i64 ((e0_ l0 l2 x13_1 x14_2).f6))).setCell ⟨gb290, 7, none⟩ (.bool false))) (by rfl) rfl rfl rfl rfl rfl (by kernel_rfl) BK290.out (Nat.le_refl _) rfl rfl ?_
                             refine hK.out _ _ ⟨((cfar8 hw284_0 GW290.out).trans (hHeld.1)), ((cfar8 hw285_0 GW290.out).trans (hHeld.2.1)), ((cfar8 hw285_1 GW290.out).trans (hHeld.2.2.1)), ((cfar8 hw285_2 GW290.out).trans (hHeld.2.2.2.1)), ((cfar8 hw285_3 GW290.out).trans (hHeld.2.2.2.2.1)), ((cfar8 hw285_4 GW290.out).trans (hHeld.2.2.2.2.2.1)), ((cfar8 hw285_5 GW290.out).trans (hHeld.2.2.2.2.2.2.1)), ((cfar8 hw285_6 GW290.out).trans (hHeld.2.2.2.2.2.2.2.1)), ((cfar8 hw286_0 GW290.out).trans (hHeld.2.2.2.2.2.2.2.2.1)), ((cfar8 hw287_0 GW290.out).trans (hHeld.2.2.2.2.2.2.2.2.2.1)), ((cfar8 hw287_1 GW290.out).trans (hHeld.2.2.2.2.2.2.2.2.2.2.1)), ((cfar8 hw287_2 GW290.out).trans (hHeld.2.2.2.2.2.2.2.2.2.2.2.1)), ((cfar8 hw287_3 GW290.out).trans (hHeld.2.2.2.2.2.2.2.2.2.2.2.2.1)), ((cfar8 hw287_4 GW290.out).trans (hHeld.2.2.2.2.2.2.2.2.2.2.2.2.2.1)), ((cfar8 hw287_5 GW290.out).trans (hHeld.2.2.2.2.2.2.2.2.2.2.2.2.2.2.1)), ((cfar8 hw287_6 GW290.out).trans (hHeld.2.2.2.2.2.2.2.2.2.2.2.2.2.2.2.1)), ((cfar8 hw288_0 GW290.out).trans (hHeld.2.2.2.2.2.2.2.2.2.2.2.2.2.2.2.2.1)), ((cfar8 hw288_1 GW290.out).trans (hHeld.2.2.2.2.2.2.2.2.2.2.2.2.2.2.2.2.2.1)), ((cfar8 hw289_0 GW290.out).trans (hHeld.2.2.2.2.2.2.2.2.2.2.2.2.2.2.2.2.2.2.1)), ((cfar8 hw289_1 GW290.out).trans (hHeld.2.2.2.2.2.2.2.2.2.2.2.2.2.2.2.2.2.2.2.1)), ((cfar8 hw289_2 GW290.out).trans (hHeld.2.2.2.2.2.2.2.2.2.2.2.2.2.2.2.2.2.2.2.2.1)), ((cfar8 hw289_3 GW290.out).trans (hHeld.2.2.2.2.2.2.2.2.2.2.2.2.2.2.2.2.2.2.2.2.2.1)), ((cfar8 hw289_4 GW290.out).trans (hHeld.2.2.2.2.2.2.2.2.2.2.2.2.2.2.2.2.2.2.2.2.2.2.1)), ((cfar8 hw289_5 GW290.out).trans (hHeld.2.2.2.2.2.2.2.2.2.2.2.2.2.2.2.2.2.2.2.2.2.2.2.1)), ((cfar8 hw289_6 GW290.out).trans (hHeld.2.2.2.2.2.2.2.2.2.2.2.2.2.2.2.2.2.2.2.2.2.2.2.2.1)), ((cfar8 hw289_7 GW290.out).trans (hHeld.2.2.2.2.2.2.2.2.2.2.2.2.2.2.2.2.2.2.2.2.2.2.2.2.2))⟩ (fun hHeld => ?_)
                             clear hK K
                             refine done_ (done_of HT_.out (by kernel_rfl)) ?_
                             obtain ⟨Ao70, co70, eo70⟩ := Kd.R_slice HO_9.out
                             subst eo70
                             have p291 : 0 ≤ (x12_2 : Int) := ud
                             have q291 : x12_2 < (t269.length : Int) := ud
                             obtain ⟨ad291, e291, hx291_0, hx291_1, hx291_2, hx291_3⟩ := at_T28 (Kd.R_reads' HO_9.out).2.2 x12_2 p291 q291
                             cases e291
                             have hn291_0 : ad291.block ≠ gb290 := Kd.own_blk (Kd.R_ne HO_9.out BK290.out (by decide))
                             have hn291_1 : ad291.block ≠ gb290 := Kd.own_blk (Kd.R_ne HO_9.out BK290.out (by decide))
                             have hn291_2 : ad291.block ≠ gb290 := Kd.own_blk (Kd.R_ne HO_9.out BK290.out (by decide))
                             have hn291_3 : ad291.block ≠ gb290 := Kd.own_blk (Kd.R_ne HO_9.out BK290.out (by decide))
                             have hn291_4 : ad291.block ≠ gb290 := Kd.own_blk (Kd.R_ne HO_9.out BK290.out (by decide))
                             have hn291_5 : ad291.block ≠ gb290 := Kd.own_blk (Kd.R_ne HO_9.out BK290.out (by decide))
                             have hn291_6 : ad291.block ≠ gb290 := Kd.own_blk (Kd.R_ne HO_9.out BK290.out (by decide))
                             have hn291_7 : ad291.block ≠ gb290 := Kd.own_blk (Kd.R_ne HO_9.out BK290.out (by decide))
                             replace hx291_0 := (cne 0 hn291_0 (.string ((e0_ l0 l2 x13_1 x14_2).f0))).trans hx291_0
                             replace hx291_1 := (cne 0 hn291_0 (.string ((e0_ l0 l2 x13_1 x14_2).f0))).trans hx291_1
                             replace hx291_2 := (cne 0 hn291_0 (.string ((e0_ l0 l2 x13_1 x14_2).f0))).trans hx291_2
                             replace hx291_3 := (cne 0 hn291_0 (.string ((e0_ l0 l2 x13_1 x14_2).f0))).trans hx291_3
                             replace hx291_0 := (cne 1 hn291_1 (.string ((e0_ l0 l2 x13_1 x14_2).f1))).trans hx291_0
                             replace hx291_1 := (cne 1 hn291_1 (.string ((e0_ l0 l2 x13_1 x14_2).f1))).trans hx291_1
                             replace hx291_2 := (cne 1 hn291_1 (.string ((e0_ l0 l2 x13_1 x14_2).f1))).trans hx291_2
                             replace hx291_3 := (cne 1 hn291_1 (.string ((e0_ l0 l2 x13_1 x14_2).f1))).trans hx291_3
                             replace hx291_0 := (cne 2 hn291_2 (.int .u64 ((e0_ l0 l2 x13_1 x14_2).f2))).trans hx291_0
                             replace hx291_1 := (cne 2 hn291_2 (.int .u64 ((e0_ l0 l2 x13_1 x14_2).f2))).trans hx291_1
                             replace hx291_2 := (cne 2 hn291_2 (.int .u64 ((e0_ l0 l2 x13_1 x14_2).f2))).trans hx291_2
                             replace hx291_3 := (cne 2 hn291_2 (.int .u64 ((e0_ l0 l2 x13_1 x14_2).f2))).trans hx291_3
                             replace hx291_0 := (cne 3 hn291_3 (.int .u64 ((e0_ l0 l2 x13_1 x14_2).f3))).trans hx291_0
                             replace hx291_1 := (cne 3 hn291_3 (.int .u64 ((e0_ l0 l2 x13_1 x14_2).f3))).trans hx291_1
                             replace hx291_2 := (cne 3 hn291_3 (.int .u64 ((e0_ l0 l2 x13_1 x14_2).f3))).trans hx291_2
                             replace hx291_3 := (cne 3 hn291_3 (.int .u64 ((e0_ l0 l2 x13_1 x14_2).f3))).trans hx291_3
                             replace hx291_0 := (cne 4 hn291_4 (.int .i64 ((e0_ l0 l2 x13_1 x14_2).f4))).trans hx291_0
                             replace hx291_1 := (cne 4 hn291_4 (.int .i64 ((e0_ l0 l2 x13_1 x14_2).f4))).trans hx291_1
                             replace hx291_2 := (cne 4 hn291_4 (.int .i64 ((e0_ l0 l2 x13_1 x14_2).f4))).trans hx291_2
                             replace hx291_3 := (cne 4 hn291_4 (.int .i64 ((e0_ l0 l2 x13_1 x14_2).f4))).trans hx291_3
                             replace hx291_0 := (cne 5 hn291_5 (.int .i64 ((e0_ l0 l2 x13_1 x14_2).f5))).trans hx291_0
                             replace hx291_1 := (cne 5 hn291_5 (.int .i64 ((e0_ l0 l2 x13_1 x14_2).f5))).trans hx291_1
                             replace hx291_2 := (cne 5 hn291_5 (.int .i64 ((e0_ l0 l2 x13_1 x14_2).f5))).trans hx291_2
                             replace hx291_3 := (cne 5 hn291_5 (.int .i64 ((e0_ l0 l2 x13_1 x14_2).f5))).trans hx291_3
                             replace hx291_0 := (cne 6 hn291_6 (.int .i64 ((e0_ l0 l2 x13_1 x14_2).f6))).trans hx291_0
                             replace hx291_1 := (cne 6 hn291_6 (.int .i64 ((e0_ l0 l2 x13_1 x14_2).f6))).trans hx291_1
                             replace hx291_2 := (cne 6 hn291_6 (.int .i64 ((e0_ l0 l2 x13_1 x14_2).f6))).trans hx291_2
                             replace hx291_3 := (cne 6 hn291_6 (.int .i64 ((e0_ l0 l2 x13_1 x14_2).f6))).trans hx291_3
                             replace hx291_0 := (cne 7 hn291_7 (.bool false)).trans hx291_0
                             replace hx291_1 := (cne 7 hn291_7 (.bool false)).trans hx291_1
                             replace hx291_2 := (cne 7 hn291_7 (.bool false)).trans hx291_2
                             replace hx291_3 := (cne 7 hn291_7 (.bool false)).trans hx291_3
                             clear hn291_0 hn291_1 hn291_2 hn291_3 hn291_4 hn291_5 hn291_6 hn291_7
                             replace p291 := eq_true p291
                             replace q291 := eq_true q291
                             have hnb71 := NB290_277.out
                             have hnc71 := NB277_290.out
                             have hcz72_0 : w61.cell? ⟨gb290, 0, none⟩ = some (.string (⟨#[]⟩ : ByteArray)) := (blk_cell BK290.out 0).trans rfl
                             have hcz72_1 : w61.cell? ⟨gb290, 1, none⟩ = some (.string (⟨#[]⟩ : ByteArray)) := (blk_cell BK290.out 1).trans rfl
                             have hcz72_2 : w61.cell? ⟨gb290, 2, none⟩ = some (.int .u64 0) := (blk_cell BK290.out 2).trans rfl
                             have hcz72_3 : w61.cell? ⟨gb290, 3, none⟩ = some (.int .u64 0) := (blk_cell BK290.out 3).trans rfl
                             have hcz72_4 : w61.cell? ⟨gb290, 4, none⟩ = some (.int .i64 0) := (blk_cell BK290.out 4).trans rfl
                             have hcz72_5 : w61.cell? ⟨gb290, 5, none⟩ = some (.int .i64 0) := (blk_cell BK290.out 5).trans rfl
                             have hcz72_6 : w61.cell? ⟨gb290, 6, none⟩ = some (.int .i64 0) := (blk_cell BK290.out 6).trans rfl
                             have hcz72_7 : w61.cell? ⟨gb290, 7, none⟩ = some (.bool false) := (blk_cell BK290.out 7).trans (by first | with_reducible rfl | (rw [← Nbq44.out]; rfl) | rfl)
                             have hfz72_0 := blk_frozen BK290.out 0
                             have hfz72_1 := blk_frozen BK290.out 1
                             have hfz72_2 := blk_frozen BK290.out 2
                             have hfz72_3 := blk_frozen BK290.out 3
                             have hfz72_4 := blk_frozen BK290.out 4
                             have hfz72_5 := blk_frozen BK290.out 5
                             have hfz72_6 := blk_frozen BK290.out 6
                             have hfz72_7 := blk_frozen BK290.out 7
                             try go_wp2
                             go_roundg kj20
                             case measure => have := HK1.out; have := HK2.out; have := HJ20.out; omega
                             case rel => exact ⟨(wrap64 (x12_2 + 1)), (wrap64 (x14_2 + 1)), uf, uf, (by first | exact H' | (rw [← Nbq44.out]; exact H')), ⟨by have := HK1.out; have := HK2.out; have := HJ20.out; omega⟩, ⟨by (with_reducible repeat (first | apply Kd.R_alloc | apply Kd.R_drewN | apply Kd.R_drew)); exact Kd.R_mono (Kd.R_far (p := ⟨gb290, 7, none⟩) (Kd.R_far (p := ⟨gb290, 6, none⟩) (Kd.R_far (p := ⟨gb290, 5, none⟩) (Kd.R_far (p := ⟨gb290, 4, none⟩) (Kd.R_far (p := ⟨gb290, 3, none⟩) (Kd.R_far (p := ⟨gb290, 2, none⟩) (Kd.R_far (p := ⟨gb290, 1, none⟩) (Kd.R_far (p := ⟨gb290, 0, none⟩) (Kd.R_types HO_9.out BK290.out (by decide)) (fun _ hk => hk.2) (.string ((e0_ l0 l2 x13_1 x14_2).f0))) (fun _ hk => hk.2) (.string ((e0_ l0 l2 x13_1 x14_2).f1))) (fun _ hk => hk.2) (.int .u64 ((e0_ l0 l2 x13_1 x14_2).f2))) (fun _ hk => hk.2) (.int .u64 ((e0_ l0 l2 x13_1 x14_2).f3))) (fun _ hk => hk.2) (.int .i64 ((e0_ l0 l2 x13_1 x14_2).f4))) (fun _ hk => hk.2) (.int .i64 ((e0_ l0 l2 x13_1 x14_2).f5))) (fun _ hk => hk.2) (.int .i64 ((e0_ l0 l2 x13_1 x14_2).f6))) (fun _ hk => hk.2) (.bool false)) (fun _ hk => hk.1)⟩, ⟨by (iterate 8 ((with_reducible repeat (first | refine blk_drewN ?_ _ | refine blk_drew ?_ | refine blk_alloc ?_ _)); refine blk_far ?_ NB277_290.out _)); (with_reducible repeat (first | refine blk_drewN ?_ _ | refine blk_drew ?_ | refine blk_alloc ?_ _)); first | exact BK277.out | (rw [← Nbq44.out]; exact BK277.out)⟩, ⟨by repeat (first | (with_reducible first | exact HB.out | apply below_alloc | apply pw_below_drewN | apply below_drew1 | refine below_set ?_ GE277.out | refine below_set ?_ GE290.out) | exact HB.out)⟩⟩
                            ·rw [if_neg c59] at H
                             have c59b0 : (((e0_ l0 l2 x13_1 x14_2).f5) == 3) = false := beq_eq_false_iff_ne.mpr c59
                             have c59b1 : (((e0_ l0 l2 x13_1 x14_2).f5) != 3) = true := bne_iff_ne.mpr c59
                             exact absurd ((Option.some.inj H).trans HT.out) (by decide)
                          ·rw [if_neg c43] at H
                           have c43b0 : decide (((rd_T28 t269 x12_2).f2) < 0) = false := decide_eq_false c43
                           clear c43
                           have HC86 := am H
                           clear H
                           try go_wp2
                           have n0_ := am (Kd.R_drew HO_9.out)
                           have n1_ := am (blk_drew BK277.out)
                           have n2_ := am (below_drew1 HB.out)
                           revert n0_ n1_ n2_
                           clear HO_9 BK277 HB
                           intro HO_9 BK277 HB
                           have p284 : 0 ≤ (x13_1 : Int) := ud
                           have q284 : x13_1 < (l2.length : Int) := ud
                           obtain ⟨ad284, e284, hx284_0⟩ := Kd.at_int HR2.out x13_1 p284 q284
                           have hw284_0 := hx284_0
                           obtain rfl : ad279 = ad284 := (by injection e284)
                           replace hx284_0 := bcel HB hx284_0
                           replace p284 := eq_true p284
                           replace q284 := eq_true q284
                           have p285 : 0 ≤ ((rd l2 x13_1) : Int) := ud
                           have q285 : (rd l2 x13_1) < (l0.length : Int) := ud
                           obtain ⟨ad285, A285_1, c285_1, A285_2, c285_2, A285_3, c285_3, A285_4, c285_4, A285_5, c285_5, A285_6, c285_6, e285, hx285_0, hx285_1, hx285_2, hx285_3, hx285_4, hx285_5, hx285_6, hl285_1, hi285_1, hl285_2, hi285_2, hl285_3, hi285_3, hl285_4, hi285_4, hl285_5, hi285_5, hl285_6, hi285_6⟩ := at_T39 HR0.out (rd l2 x13_1) p285 q285
                           have hw285_6 := hx285_6
                           have hw285_5 := hx285_5
                           have hw285_4 := hx285_4
                           have hw285_3 := hx285_3
                           have hw285_2 := hx285_2
                           have hw285_1 := hx285_1
                           have hw285_0 := hx285_0
                           obtain rfl : ad280 = ad285 := (by injection e285)
                           replace hx285_0 := bcel HB hx285_0
                           replace hx285_1 := bcel HB hx285_1
                           replace hx285_2 := bcel HB hx285_2
                           replace hx285_3 := bcel HB hx285_3
                           replace hx285_4 := bcel HB hx285_4
                           replace hx285_5 := bcel HB hx285_5
                           replace hx285_6 := bcel HB hx285_6
                           have HR285_1 := am hi285_1
                           have HC285_1 := am hl285_1
                           clear hi285_1 hl285_1
                           have HR285_2 := am hi285_2
                           have HC285_2 := am hl285_2
                           clear hi285_2 hl285_2
                           have HR285_3 := am hi285_3
                           have HC285_3 := am hl285_3
                           clear hi285_3 hl285_3
                           have HR285_4 := am hi285_4
                           have HC285_4 := am hl285_4
                           clear hi285_4 hl285_4
                           have HR285_5 := am hi285_5
                           have HC285_5 := am hl285_5
                           clear hi285_5 hl285_5
                           have HR285_6 := am hi285_6
                           have HC285_6 := am hl285_6
                           clear hi285_6 hl285_6
                           replace p285 := eq_true p285
                           replace q285 := eq_true q285
                           have p286 : 0 ≤ (x13_1 : Int) := ud
                           have q286 : x13_1 < (l2.length : Int) := ud
                           obtain ⟨ad286, e286, hx286_0⟩ := Kd.at_int HR2.out x13_1 p286 q286
                           have hw286_0 := hx286_0
                           obtain rfl : ad279 = ad286 := (by injection e286)
                           replace hx286_0 := bcel HB hx286_0
                           replace p286 := eq_true p286
                           replace q286 := eq_true q286
                           have p287 : 0 ≤ ((rd l2 x13_1) : Int) := ud
                           have q287 : (rd l2 x13_1) < (l0.length : Int) := ud
                           obtain ⟨ad287, A287_1, c287_1, A287_2, c287_2, A287_3, c287_3, A287_4, c287_4, A287_5, c287_5, A287_6, c287_6, e287, hx287_0, hx287_1, hx287_2, hx287_3, hx287_4, hx287_5, hx287_6, hl287_1, hi287_1, hl287_2, hi287_2, hl287_3, hi287_3, hl287_4, hi287_4, hl287_5, hi287_5, hl287_6, hi287_6⟩ := at_T39 HR0.out (rd l2 x13_1) p287 q287
                           have hw287_6 := hx287_6
                           have hw287_5 := hx287_5
                           have hw287_4 := hx287_4
                           have hw287_3 := hx287_3
                           have hw287_2 := hx287_2
                           have hw287_1 := hx287_1
                           have hw287_0 := hx287_0
                           obtain rfl : ad280 = ad287 := (by injection e287)
                           replace hx287_0 := bcel HB hx287_0
                           replace hx287_1 := bcel HB hx287_1
                           replace hx287_2 := bcel HB hx287_2
                           replace hx287_3 := bcel HB hx287_3
                           replace hx287_4 := bcel HB hx287_4
                           replace hx287_5 := bcel HB hx287_5
                           replace hx287_6 := bcel HB hx287_6
                           have HR287_1 := am hi287_1
                           have HC287_1 := am hl287_1
                           clear hi287_1 hl287_1
                           have HR287_2 := am hi287_2
                           have HC287_2 := am hl287_2
                           clear hi287_2 hl287_2
                           have HR287_3 := am hi287_3
                           have HC287_3 := am hl287_3
                           clear hi287_3 hl287_3
                           have HR287_4 := am hi287_4
                           have HC287_4 := am hl287_4
                           clear hi287_4 hl287_4
                           have HR287_5 := am hi287_5
                           have HC287_5 := am hl287_5
                           clear hi287_5 hl287_5
                           have HR287_6 := am hi287_6
                           have HC287_6 := am hl287_6
                           clear hi287_6 hl287_6
                           replace p287 := eq_true p287
                           replace q287 := eq_true q287
                           have ea_ := Option.some.inj (hx285_1.symm.trans hx287_1)
                           injection ea_ with ea_ en_ ec_
                           subst ea_
                           subst ec_
                           clear en_
                           have ea_ := Option.some.inj (hx285_2.symm.trans hx287_2)
                           injection ea_ with ea_ en_ ec_
                           subst ea_
                           subst ec_
                           clear en_
                           have ea_ := Option.some.inj (hx285_3.symm.trans hx287_3)
                           injection ea_ with ea_ en_ ec_
                           subst ea_
                           subst ec_
                           clear en_
                           have ea_ := Option.some.inj (hx285_4.symm.trans hx287_4)
                           injection ea_ with ea_ en_ ec_
                           subst ea_
                           subst ec_
                           clear en_
                           have ea_ := Option.some.inj (hx285_5.symm.trans hx287_5)
                           injection ea_ with ea_ en_ ec_
                           subst ea_
                           subst ec_
                           clear en_
                           have ea_ := Option.some.inj (hx285_6.symm.trans hx287_6)
                           injection ea_ with ea_ en_ ec_
                           subst ea_
                           subst ec_
                           clear en_
                           have p288 : 0 ≤ (x14_2 : Int) := ud
                           have q288 : x14_2 < (((rd_T39 l0 (rd l2 x13_1)).f4).length : Int) := ud
                           obtain ⟨ad288, e288, hx288_0, hx288_1⟩ := at_T44 HR287_4.out x14_2 p288 q288
                           have hw288_1 := hx288_1
                           have hw288_0 := hx288_0
                           cases e288
                           replace hx288_0 := bcel HB hx288_0
                           replace hx288_1 := bcel HB hx288_1
                           replace p288 := eq_true p288
                           replace q288 := eq_true q288
                           have p289 : 0 ≤ (((rd_T44 ((rd_T39 l0 (rd l2 x13_1)).f4) x14_2).f1) : Int) := ud
                           have q289 : ((rd_T44 ((rd_T39 l0 (rd l2 x13_1)).f4) x14_2).f1) < (((rd_T39 l0 (rd l2 x13_1)).f3).length : Int) := ud
                           obtain ⟨ad289, e289, hx289_0, hx289_1, hx289_2, hx289_3, hx289_4, hx289_5, hx289_6, hx289_7⟩ := at_T42 HR285_3.out ((rd_T44 ((rd_T39 l0 (rd l2 x13_1)).f4) x14_2).f1) p289 q289
                           have hw289_7 := hx289_7
                           have hw289_6 := hx289_6
                           have hw289_5 := hx289_5
                           have hw289_4 := hx289_4
                           have hw289_3 := hx289_3
                           have hw289_2 := hx289_2
                           have hw289_1 := hx289_1
                           have hw289_0 := hx289_0
                           cases e289
                           replace hx289_0 := bcel HB hx289_0
                           replace hx289_1 := bcel HB hx289_1
                           replace hx289_2 := bcel HB hx289_2
                           replace hx289_3 := bcel HB hx289_3
                           replace hx289_4 := bcel HB hx289_4
                           replace hx289_5 := bcel HB hx289_5
                           replace hx289_6 := bcel HB hx289_6
                           replace hx289_7 := bcel HB hx289_7
                           replace p289 := eq_true p289
                           replace q289 := eq_true q289
                           refine start_ (n := 24) (S := fun w' => w'.cell? (ad279.add (x13_1).toNat) = some (.int .i64 (rd l2 x13_1)) ∧ w'.cell? (ad280.add (((rd l2 x13_1)).toNat * 7)) = some (.string ((rd_T39 l0 (rd l2 x13_1)).f0)) ∧ w'.cell? ⟨(ad280.add (((rd l2 x13_1)).toNat * 7)).block, (ad280.add (((rd l2 x13_1)).toNat * 7)).off + 1, none⟩ = some (.slice A285_1 ((rd_T39 l0 (rd l2 x13_1)).f1).length c285_1) ∧ w'.cell? ⟨(ad280.add (((rd l2 x13_1)).toNat * 7)).block, (ad280.add (((rd l2 x13_1)).toNat * 7)).off + 2, none⟩ = some (.slice A285_2 ((rd_T39 l0 (rd l2 x13_1)).f2).length c285_2) ∧ w'.cell? ⟨(ad280.add (((rd l2 x13_1)).toNat * 7)).block, (ad280.add (((rd l2 x13_1)).toNat * 7)).off + 3, none⟩ = some (.slice (some ad289) ((rd_T39 l0 (rd l2 x13_1)).f3).length c285_3) ∧ w'.cell? ⟨(ad280.add (((rd l2 x13_1)).toNat * 7)).block, (ad280.add (((rd l2 x13_1)).toNat * 7)).off + 4, none⟩ = some (.slice (some ad288) ((rd_T39 l0 (rd l2 x13_1)).f4).length c285_4) ∧ w'.cell? ⟨(ad280.add (((rd l2 x13_1)).toNat * 7)).block, (ad280.add (((rd l2 x13_1)).toNat * 7)).off + 5, none⟩ = some (.slice A285_5 ((rd_T39 l0 (rd l2 x13_1)).f5).length c285_5) ∧ w'.cell? ⟨(ad280.add (((rd l2 x13_1)).toNat * 7)).block, (ad280.add (((rd l2 x13_1)).toNat * 7)).off + 6, none⟩ = some (.slice A285_6 ((rd_T39 l0 (rd l2 x13_1)).f6).length c285_6) ∧ w'.cell? (ad279.add (x13_1).toNat) = some (.int .i64 (rd l2 x13_1)) ∧ w'.cell? (ad280.add (((rd l2 x13_1)).toNat * 7)) = some (.string ((rd_T39 l0 (rd l2 x13_1)).f0)) ∧ w'.cell? ⟨(ad280.add (((rd l2 x13_1)).toNat * 7)).block, (ad280.add (((rd l2 x13_1)).toNat * 7)).off + 1, none⟩ = some (.slice A285_1 ((rd_T39 l0 (rd l2 x13_1)).f1).length c285_1) ∧ w'.cell? ⟨(ad280.add (((rd l2 x13_1)).toNat * 7)).block, (ad280.add (((rd l2 x13_1)).toNat * 7)).off + 2, none⟩ = some (.slice A285_2 ((rd_T39 l0 (rd l2 x13_1)).f2).length c285_2) ∧ w'.cell? ⟨(ad280.add (((rd l2 x13_1)).toNat * 7)).block, (ad280.add (((rd l2 x13_1)).toNat * 7)).off + 3, none⟩ = some (.slice (some ad289) ((rd_T39 l0 (rd l2 x13_1)).f3).length c285_3) ∧ w'.cell? ⟨(ad280.add (((rd l2 x13_1)).toNat * 7)).block, (ad280.add (((rd l2 x13_1)).toNat * 7)).off + 4, none⟩ = some (.slice (some ad288) ((rd_T39 l0 (rd l2 x13_1)).f4).length c285_4) ∧ w'.cell? ⟨(ad280.add (((rd l2 x13_1)).toNat * 7)).block, (ad280.add (((rd l2 x13_1)).toNat * 7)).off + 5, none⟩ = some (.slice A285_5 ((rd_T39 l0 (rd l2 x13_1)).f5).length c285_5) ∧ w'.cell? ⟨(ad280.add (((rd l2 x13_1)).toNat * 7)).block, (ad280.add (((rd l2 x13_1)).toNat * 7)).off + 6, none⟩ = some (.slice A285_6 ((rd_T39 l0 (rd l2 x13_1)).f6).length c285_6) ∧ w'.cell? (ad288.add ((x14_2).toNat * 2)) = some (.int .u64 ((rd_T44 ((rd_T39 l0 (rd l2 x13_1)).f4) x14_2).f0)) ∧ w'.cell? ⟨(ad288.add ((x14_2).toNat * 2)).block, (ad288.add ((x14_2).toNat * 2)).off + 1, none⟩ = some (.int .i64 ((rd_T44 ((rd_T39 l0 (rd l2 x13_1)).f4) x14_2).f1)) ∧ w'.cell? (ad289.add ((((rd_T44 ((rd_T39 l0 (rd l2 x13_1)).f4) x14_2).f1)).toNat * 8)) = some (.string ((e0_ l0 l2 x13_1 x14_2).f0)) ∧ w'.cell? ⟨(ad289.add ((((rd_T44 ((rd_T39 l0 (rd l2 x13_1)).f4) x14_2).f1)).toNat * 8)).block, (ad289.add ((((rd_T44 ((rd_T39 l0 (rd l2 x13_1)).f4) x14_2).f1)).toNat * 8)).off + 1, none⟩ = some (.string ((e0_ l0 l2 x13_1 x14_2).f1)) ∧ w'.cell? ⟨(ad289.add ((((rd_T44 ((rd_T39 l0 (rd l2 x13_1)).f4) x14_2).f1)).toNat * 8)).block, (ad289.add ((((rd_T44 ((rd_T39 l0 (rd l2 x13_1)).f4) x14_2).f1)).toNat * 8)).off + 2, none⟩ = some (.int .u64 ((e0_ l0 l2 x13_1 x14_2).f2)) ∧ w'.cell? ⟨(ad289.add ((((rd_T44 ((rd_T39 l0 (rd l2 x13_1)).f4) x14_2).f1)).toNat * 8)).block, (ad289.add ((((rd_T44 ((rd_T39 l0 (rd l2 x13_1)).f4) x14_2).f1)).toNat * 8)).off + 3, none⟩ = some (.int .u64 ((e0_ l0 l2 x13_1 x14_2).f3)) ∧ w'.cell? ⟨(ad289.add ((((rd_T44 ((rd_T39 l0 (rd l2 x13_1)).f4) x14_2).f1)).toNat * 8)).block, (ad289.add ((((rd_T44 ((rd_T39 l0 (rd l2 x13_1)).f4) x14_2).f1)).toNat * 8)).off + 4, none⟩ = some (.int .i64 ((e0_ l0 l2 x13_1 x14_2).f4)) ∧ w'.cell? ⟨(ad289.add ((((rd_T44 ((rd_T39 l0 (rd l2 x13_1)).f4) x14_2).f1)).toNat * 8)).block, (ad289.add ((((rd_T44 ((rd_T39 l0 (rd l2 x13_1)).f4) x14_2).f1)).toNat * 8)).off + 5, none⟩ = some (.int .i64 ((e0_ l0 l2 x13_1 x14_2).f5)) ∧ w'.cell? ⟨(ad289.add ((((rd_T44 ((rd_T39 l0 (rd l2 x13_1)).f4) x14_2).f1)).toNat * 8)).block, (ad289.add ((((rd_T44 ((rd_T39 l0 (rd l2 x13_1)).f4) x14_2).f1)).toNat * 8)).off + 6, none⟩ = some (.int .i64 ((e0_ l0 l2 x13_1 x14_2).f6)) ∧ w'.cell? ⟨(ad289.add ((((rd_T44 ((rd_T39 l0 (rd l2 x13_1)).f4) x14_2).f1)).toNat * 8)).block, (ad289.add ((((rd_T44 ((rd_T39 l0 (rd l2 x13_1)).f4) x14_2).f1)).toNat * 8)).off + 7, none⟩ = some (.bool ((e0_ l0 l2 x13_1 x14_2).f7))) (ds := []) #[false, false, false, false, false, false, false, false, false, false, false, false, false, false, false, false, false, false, false, false, false, false, false, false] (by kernel_rfl) rfl rfl ⟨(bcel HB hw284_0), (bcel HB hw285_0), (bcel HB hw285_1), (bcel HB hw285_2), (bcel HB hw285_3), (bcel HB hw285_4), (bcel HB hw285_5), (bcel HB hw285_6), (bcel HB hw286_0), (bcel HB hw287_0), (bcel HB hw287_1), (bcel HB hw287_2), (bcel HB hw287_3), (bcel HB hw287_4), (bcel HB hw287_5), (bcel HB hw287_6), (bcel HB hw288_0), (bcel HB hw288_1), (bcel HB hw289_0), (bcel HB hw289_1), (bcel HB hw289_2), (bcel HB hw289_3), (bcel HB hw289_4), (bcel HB hw289_5), (bcel HB hw289_6), (bcel HB hw289_7)⟩ (fun hHeld => ?_); refine with_tabW curtilagelaw15_PlanWhole.tab19 curtilagelaw15_PlanWhole.bits19 (fun HT_ HW_ => ?_)
                           generalize wc.drew = w87 at HO_9 BK277 HB HR285_1 HR285_2 HR285_3 HR285_4 HR285_5 HR285_6 HR287_1 HR287_2 HR287_3 HR287_4 HR287_5 HR287_6 hx284_0 hx285_0 hx285_1 hx285_2 hx285_3 hx285_4 hx285_5 hx285_6 hx286_0 hx287_0 hx287_1 hx287_2 hx287_3 hx287_4 hx287_5 hx287_6 hx288_0 hx288_1 hx289_0 hx289_1 hx289_2 hx289_3 hx289_4 hx289_5 hx289_6 hx289_7 hHeld ⊢
                           refine pu 0 112 (bA 24 1) HT_ ?_ ?_ ?_ ?_ ?_; rotate_left; (intro w'; go_simp; with_reducible rfl); rotate_left; (simp only [Act.put, s1, s2, s3, i64_w, i32_w]; rfl)
                           refine pu 1 113 (bA 24 3) HT_ ?_ ?_ ?_ ?_ ?_; rotate_left; (intro w'; go_simp; with_reducible rfl); rotate_left; (simp only [Act.put, s1, s2, s3, i64_w, i32_w]; rfl)
                           refine pu 2 114 (bA 24 7) HT_ ?_ ?_ ?_ ?_ ?_; rotate_left; (intro w'; go_simp; with_reducible rfl); rotate_left; (simp only [Act.put, s1, s2, s3, i64_w, i32_w]; rfl)
                           refine pu 3 115 (bA 24 15) HT_ ?_ ?_ ?_ ?_ ?_; rotate_left; (intro w'; go_simp; with_reducible rfl); rotate_left; (simp only [Act.put, s1, s2, s3, i64_w, i32_w]; rfl)
                           refine pu 8 120 (bA 24 271) HT_ ?_ ?_ ?_ ?_ ?_; rotate_left; (intro w'; go_simp; with_reducible rfl); rotate_left; (simp only [Act.put, s1, s2, s3, i64_w, i32_w]; rfl)
                           refine pu 9 121 (bA 24 783) HT_ ?_ ?_ ?_ ?_ ?_; rotate_left; (intro w'; go_simp; with_reducible rfl); rotate_left; (simp only [Act.put, s1, s2, s3, i64_w, i32_w]; rfl)
                           refine pu 10 122 (bA 24 1807) HT_ ?_ ?_ ?_ ?_ ?_; rotate_left; (intro w'; go_simp; with_reducible rfl); rotate_left; (simp only [Act.put, s1, s2, s3, i64_w, i32_w]; rfl)
                           refine pu 11 123 (bA 24 3855) HT_ ?_ ?_ ?_ ?_ ?_; rotate_left; (intro w'; go_simp; with_reducible rfl); rotate_left; (simp only [Act.put, s1, s2, s3, i64_w, i32_w]; rfl)
                           refine pu 16 128 (bA 24 69391) HT_ ?_ ?_ ?_ ?_ ?_; rotate_left; (intro w'; go_simp; with_reducible rfl); rotate_left; (simp only [Act.put, s1, s2, s3, i64_w, i32_w]; rfl)
                           refine ta 4 116 (bA 24 69407) HT_ HW_ ?_ ?_ hHeld ?_ ?_ ?_; rotate_left; (rintro w' ⟨s0, s1, s2, s3, s4, s5, s6, s7, s8, s9, s10, s11, s12, s13, s14, s15, s16, s17, s18, s19, s20, s21, s22, s23, s24, s25⟩; go_simp; with_reducible rfl); rotate_left; (simp only [Act.put, s1, s2, s3, i64_w, i32_w]; rfl)
                           refine pu 5 117 (bA 24 69439) HT_ ?_ ?_ ?_ ?_ ?_; rotate_left; (intro w'; go_simp; with_reducible rfl); rotate_left; (simp only [Act.put, s1, s2, s3, i64_w, i32_w]; rfl)
                           refine pu 6 118 (bA 24 69503) HT_ ?_ ?_ ?_ ?_ ?_; rotate_left; (intro w'; go_simp; with_reducible rfl); rotate_left; (simp only [Act.put, s1, s2, s3, i64_w, i32_w]; rfl)
                           refine ta 7 119 (bA 24 69631) HT_ HW_ ?_ ?_ hHeld ?_ ?_ ?_; rotate_left; (rintro w' ⟨s0, s1, s2, s3, s4, s5, s6, s7, s8, s9, s10, s11, s12, s13, s14, s15, s16, s17, s18, s19, s20, s21, s22, s23, s24, s25⟩; go_simp; with_reducible rfl); rotate_left; (simp only [Act.put, s1, s2, s3, i64_w, i32_w]; rfl)
                           refine ta 12 124 (bA 24 73727) HT_ HW_ ?_ ?_ hHeld ?_ ?_ ?_; rotate_left; (rintro w' ⟨s0, s1, s2, s3, s4, s5, s6, s7, s8, s9, s10, s11, s12, s13, s14, s15, s16, s17, s18, s19, s20, s21, s22, s23, s24, s25⟩; go_simp; with_reducible rfl); rotate_left; (simp only [Act.put, s1, s2, s3, i64_w, i32_w]; rfl)
                           refine pu 13 125 (bA 24 81919) HT_ ?_ ?_ ?_ ?_ ?_; rotate_left; (intro w'; go_simp; with_reducible rfl); rotate_left; (simp only [Act.put, s1, s2, s3, i64_w, i32_w]; rfl)
                           refine pu 14 126 (bA 24 98303) HT_ ?_ ?_ ?_ ?_ ?_; rotate_left; (intro w'; go_simp; with_reducible rfl); rotate_left; (simp only [Act.put, s1, s2, s3, i64_w, i32_w]; rfl)
                           refine ta 15 127 (bA 24 131071) HT_ HW_ ?_ ?_ hHeld ?_ ?_ ?_; rotate_left; (rintro w' ⟨s0, s1, s2, s3, s4, s5, s6, s7, s8, s9, s10, s11, s12, s13, s14, s15, s16, s17, s18, s19, s20, s21, s22, s23, s24, s25⟩; go_simp; with_reducible rfl); rotate_left; (simp only [Act.put, s1, s2, s3, i64_w, i32_w]; rfl)
                           refine pu 17 129 (bA 24 262143) HT_ ?_ ?_ ?_ ?_ ?_; rotate_left; (intro w'; go_simp; with_reducible rfl); rotate_left; (simp only [Act.put, s1, s2, s3, i64_w, i32_w]; rfl)
                           refine pu 18 130 (bA 24 524287) HT_ ?_ ?_ ?_ ?_ ?_; rotate_left; (intro w'; go_simp; with_reducible rfl); rotate_left; (simp only [Act.put, s1, s2, s3, i64_w, i32_w]; rfl)
                           refine ta 19 131 (bA 24 1048575) HT_ HW_ ?_ ?_ hHeld ?_ ?_ ?_; rotate_left; (rintro w' ⟨s0, s1, s2, s3, s4, s5, s6, s7, s8, s9, s10, s11, s12, s13, s14, s15, s16, s17, s18, s19, s20, s21, s22, s23, s24, s25⟩; go_simp; with_reducible rfl); rotate_left; (simp only [Act.put, s1, s2, s3, i64_w, i32_w]; rfl)
                           refine pu 20 132 (bA 24 2097151) HT_ ?_ ?_ ?_ ?_ ?_; rotate_left; (intro w'; go_simp; with_reducible rfl); rotate_left; (simp only [Act.put, s1, s2, s3, i64_w, i32_w]; rfl)
                           refine ta 21 133 (bA 24 4194303) HT_ HW_ ?_ ?_ hHeld ?_ ?_ ?_; rotate_left; (rintro w' ⟨s0, s1, s2, s3, s4, s5, s6, s7, s8, s9, s10, s11, s12, s13, s14, s15, s16, s17, s18, s19, s20, s21, s22, s23, s24, s25⟩; go_simp; with_reducible rfl); rotate_left; (simp only [Act.put, s1, s2, s3, i64_w, i32_w]; rfl)
                           refine one_ (i := 22) (N := some 15) #[true, true, true, true, true, true, true, true, true, true, true, true, true, true, true, true, true, true, true, true, true, true, true, false] rfl rfl (one_of HT_.out (by kernel_rfl)) (by decide) (fun K hK => ?_)
                           refine box_step ?hg (N := 15) ?hd (cs := #[.string (⟨#[]⟩ : ByteArray), .string (⟨#[]⟩ : ByteArray), .int .u64 0, .int .u64 0, .int .i64 0, .int .i64 0, .int .i64 0, .bool false]) (t := 42) ?hr ?_; (case hd => rfl); (case hg => rfl); (case hr => first | (go_simp; done) | (go_simp; rfl))
                           intro gb290 hg w88 hbox hb
                           have n0_ := am (Kd.R_below (ua HO_9.out) hb)
                           have n1_ := am (blk_below (g := gb277) (o := .cells #[.int .i64 t272, .int .i64 t273, .int .i64 t274, .int .i64 t275] 28 (0, 0)) (ub BK277.out) hb)
                           have n2_ := am (below_step (uc HB.out) hb)
                           have n3_ := am (hbox)
                           have n4_ := am ((by rw [hg]; exact (below_size (uc HB.out)) : w.heap.size ≤ gb290))
                           have n5_ := am ((by rw [hg]; exact (below_size (uc HB.out)) : w.heap.size ≤ gb290))
                           have n6_ := am ((by rw [hg]; exact Nat.ne_of_lt (blk_lt (g := gb277) (o := .cells #[.int .i64 t272, .int .i64 t273, .int .i64 t274, .int .i64 t275] 28 (0, 0)) (ub BK277.out)) : gb277 ≠ gb290))
                           have n7_ := am ((by rw [hg]; exact Nat.ne_of_gt (blk_lt (g := gb277) (o := .cells #[.int .i64 t272, .int .i64 t273, .int .i64 t274, .int .i64 t275] 28 (0, 0)) (ub BK277.out)) : gb290 ≠ gb277))
                           revert n0_ n1_ n2_ n3_ n4_ n5_ n6_ n7_
                           clear HO_9 BK277 HB
                           intro HO_9 BK277 HB BK290 GW290 GE290 NB277_290 NB290_277
                           clear hb hbox hg
                           refine hK.out _ _ ⟨(bcel HB hw284_0), (bcel HB hw285_0), (bcel HB hw285_1), (bcel HB hw285_2), (bcel HB hw285_3), (bcel HB hw285_4), (bcel HB hw285_5), (bcel HB hw285_6), (bcel HB hw286_0), (bcel HB hw287_0), (bcel HB hw287_1), (bcel HB hw287_2), (bcel HB hw287_3), (bcel HB hw287_4), (bcel HB hw287_5), (bcel HB hw287_6), (bcel HB hw288_0), (bcel HB hw288_1), (bcel HB hw289_0), (bcel HB hw289_1), (bcel HB hw289_2), (bcel HB hw289_3), (bcel HB hw289_4), (bcel HB hw289_5), (bcel HB hw289_6), (bcel HB hw289_7)⟩ (fun hHeld => ?_)
                           clear hK K
                           refine norm_ (a' := ?_) ?_ ?_
                           rotate_left
                           ·show Act.put _ (some 15) _ = _
                            simp only [Act.put, List.setIfInBounds_toArray, List.set_cons_zero, List.set_cons_succ, i64_w, i32_w]
                            rfl
                           refine one_ (i := 23) (N := none) #[true, true, true, true, true, true, true, true, true, true, true, true, true, true, true, true, true, true, true, true, true, true, true, true] rfl rfl (one_of HT_.out (by kernel_rfl)) (by decide) (fun K hK => ?_)
                           have hs89 : w88.cell? ⟨gb290, 0, none⟩ = some (.string (⟨#[]⟩ : ByteArray)) := (blk_cell BK290.out 0).trans rfl
                           have hfs89 := blk_frozen BK290.out 0
                           have hns89_0 := NB277_290.out
                           have hms89_0 := NB290_277.out
                           have hs90 : w88.cell? ⟨gb290, 1, none⟩ = some (.string (⟨#[]⟩ : ByteArray)) := (blk_cell BK290.out 1).trans rfl
                           have hfs90 := blk_frozen BK290.out 1
                           have hns90_0 := NB277_290.out
                           have hms90_0 := NB290_277.out
                           have hs91 : w88.cell? ⟨gb290, 2, none⟩ = some (.int .u64 0) := (blk_cell BK290.out 2).trans rfl
                           have hfs91 := blk_frozen BK290.out 2
                           have hns91_0 := NB277_290.out
                           have hms91_0 := NB290_277.out
                           have hs92 : w88.cell? ⟨gb290, 3, none⟩ = some (.int .u64 0) := (blk_cell BK290.out 3).trans rfl
                           have hfs92 := blk_frozen BK290.out 3
                           have hns92_0 := NB277_290.out
                           have hms92_0 := NB290_277.out
                           have hs93 : w88.cell? ⟨gb290, 4, none⟩ = some (.int .i64 0) := (blk_cell BK290.out 4).trans rfl
                           have hfs93 := blk_frozen BK290.out 4
                           have hns93_0 := NB277_290.out
                           have hms93_0 := NB290_277.out
                           have hs94 : w88.cell? ⟨gb290, 5, none⟩ = some (.int .i64 0) := (blk_cell BK290.out 5).trans rfl
                           have hfs94 := blk_frozen BK290.out 5
                           have hns94_0 := NB277_290.out
                           have hms94_0 := NB290_277.out
                           have hs95 : w88.cell? ⟨gb290, 6, none⟩ = some (.int .i64 0) := (blk_cell BK290.out 6).trans rfl
                           have hfs95 := blk_frozen BK290.out 6
                           have hns95_0 := NB277_290.out
                           have hms95_0 := NB290_277.out
                           have hs96 : w88.cell? ⟨gb290, 7, none⟩ = some (.bool false) := (blk_cell BK290.out 7).trans (by first | with_reducible rfl | (rw [← Nbq44.out]; rfl) | rfl)
                           have hfs96 := blk_frozen BK290.out 7
                           have hns96_0 := NB277_290.out
                           have hms96_0 := NB290_277.out
                           refine skip_box [.string ((e0_ l0 l2 x13_1 x14_2).f0), .string ((e0_ l0 l2 x13_1 x14_2).f1), .int .u64 ((e0_ l0 l2 x13_1 x14_2).f2), .int .u64 ((e0_ l0 l2 x13_1 x14_2).f3), .int .i64 ((e0_ l0 l2 x13_1 x14_2).f4), .int .i64 ((e0_ l0 l2 x13_1 x14_2).f5), .int .i64 ((e0_ l0 l2 x13_1 x14_2).f6), .bool ((e0_ l0 l2 x13_1 x14_2).f7)] (w1 := ((((((((w88.setCell ⟨gb290, 0, none⟩ (.string ((e0_ l0 l2 x13_1 x14_2).f0))).setCell ⟨gb290, 1, none⟩ (.string ((e0_ l0 l2 x13_1 x14_2).f1))).setCell ⟨gb290, 2, none⟩ (.int .u64 ((e0_ l0 l2 x13_1 x14_2).f2))).setCell ⟨gb290, 3, none⟩ (.int .u64 ((e0_ l0 l2 x13_1 x14_2).f3))).setCell ⟨gb290, 4, none⟩ (.int .i64 ((e0_ l0 l2 x13_1 x14_2).f4))).setCell ⟨gb290, 5, none⟩ (.int .i64 ((e0_ l0 l2 x13_1 x14_2).f5))).setCell ⟨gb290, 6, none⟩ (.int .i64 ((e0_ l0 l2 x13_1 x14_2).f6))).setCell ⟨gb290, 7, none⟩ (.bool ((e0_ l0 l2 x13_1 x14_2).f7)))) (by rfl) rfl rfl rfl rfl rfl (by kernel_rfl) BK290.out (Nat.le_refl _) rfl rfl ?_
                           refine hK.out _ _ ⟨((cfar8 hw284_0 GW290.out).trans (hHeld.1)), ((cfar8 hw285_0 GW290.out).trans (hHeld.2.1)), ((cfar8 hw285_1 GW290.out).trans (hHeld.2.2.1)), ((cfar8 hw285_2 GW290.out).trans (hHeld.2.2.2.1)), ((cfar8 hw285_3 GW290.out).trans (hHeld.2.2.2.2.1)), ((cfar8 hw285_4 GW290.out).trans (hHeld.2.2.2.2.2.1)), ((cfar8 hw285_5 GW290.out).trans (hHeld.2.2.2.2.2.2.1)), ((cfar8 hw285_6 GW290.out).trans (hHeld.2.2.2.2.2.2.2.1)), ((cfar8 hw286_0 GW290.out).trans (hHeld.2.2.2.2.2.2.2.2.1)), ((cfar8 hw287_0 GW290.out).trans (hHeld.2.2.2.2.2.2.2.2.2.1)), ((cfar8 hw287_1 GW290.out).trans (hHeld.2.2.2.2.2.2.2.2.2.2.1)), ((cfar8 hw287_2 GW290.out).trans (hHeld.2.2.2.2.2.2.2.2.2.2.2.1)), ((cfar8 hw287_3 GW290.out).trans (hHeld.2.2.2.2.2.2.2.2.2.2.2.2.1)), ((cfar8 hw287_4 GW290.out).trans (hHeld.2.2.2.2.2.2.2.2.2.2.2.2.2.1)), ((cfar8 hw287_5 GW290.out).trans (hHeld.2.2.2.2.2.2.2.2.2.2.2.2.2.2.1)), ((cfar8 hw287_6 GW290.out).trans (hHeld.2.2.2.2.2.2.2.2.2.2.2.2.2.2.2.1)), ((cfar8 hw288_0 GW290.out).trans (hHeld.2.2.2.2.2.2.2.2.2.2.2.2.2.2.2.2.1)), ((cfar8 hw288_1 GW290.out).trans (hHeld.2.2.2.2.2.2.2.2.2.2.2.2.2.2.2.2.2.1)), ((cfar8 hw289_0 GW290.out).trans (hHeld.2.2.2.2.2.2.2.2.2.2.2.2.2.2.2.2.2.2.1)), ((cfar8 hw289_1 GW290.out).trans (hHeld.2.2.2.2.2.2.2.2.2.2.2.2.2.2.2.2.2.2.2.1)), ((cfar8 hw289_2 GW290.out).trans (hHeld.2.2.2.2.2.2.2.2.2.2.2.2.2.2.2.2.2.2.2.2.1)), ((cfar8 hw289_3 GW290.out).trans (hHeld.2.2.2.2.2.2.2.2.2.2.2.2.2.2.2.2.2.2.2.2.2.1)), ((cfar8 hw289_4 GW290.out).trans (hHeld.2.2.2.2.2.2.2.2.2.2.2.2.2.2.2.2.2.2.2.2.2.2.1)), ((cfar8 hw289_5 GW290.out).trans (hHeld.2.2.2.2.2.2.2.2.2.2.2.2.2.2.2.2.2.2.2.2.2.2.2.1)), ((cfar8 hw289_6 GW290.out).trans (hHeld.2.2.2.2.2.2.2.2.2.2.2.2.2.2.2.2.2.2.2.2.2.2.2.2.1)), ((cfar8 hw289_7 GW290.out).trans (hHeld.2.2.2.2.2.2.2.2.2.2.2.2.2.2.2.2.2.2.2.2.2.2.2.2.2))⟩ (fun hHeld => ?_)
                           clear hK K
                           refine done_ (done_of HT_.out (by kernel_rfl)) ?_
                           obtain ⟨Ao97, co97, eo97⟩ := Kd.R_slice HO_9.out
                           subst eo97
                           have p291 : 0 ≤ (x12_2 : Int) := ud
                           have q291 : x12_2 < (t269.length : Int) := ud
                           obtain ⟨ad291, e291, hx291_0, hx291_1, hx291_2, hx291_3⟩ := at_T28 (Kd.R_reads' HO_9.out).2.2 x12_2 p291 q291
                           cases e291
                           have hn291_0 : ad291.block ≠ gb290 := Kd.own_blk (Kd.R_ne HO_9.out BK290.out (by decide))
                           have hn291_1 : ad291.block ≠ gb290 := Kd.own_blk (Kd.R_ne HO_9.out BK290.out (by decide))
                           have hn291_2 : ad291.block ≠ gb290 := Kd.own_blk (Kd.R_ne HO_9.out BK290.out (by decide))
                           have hn291_3 : ad291.block ≠ gb290 := Kd.own_blk (Kd.R_ne HO_9.out BK290.out (by decide))
                           have hn291_4 : ad291.block ≠ gb290 := Kd.own_blk (Kd.R_ne HO_9.out BK290.out (by decide))
                           have hn291_5 : ad291.block ≠ gb290 := Kd.own_blk (Kd.R_ne HO_9.out BK290.out (by decide))
                           have hn291_6 : ad291.block ≠ gb290 := Kd.own_blk (Kd.R_ne HO_9.out BK290.out (by decide))
                           have hn291_7 : ad291.block ≠ gb290 := Kd.own_blk (Kd.R_ne HO_9.out BK290.out (by decide))
                           replace hx291_0 := (cne 0 hn291_0 (.string ((e0_ l0 l2 x13_1 x14_2).f0))).trans hx291_0
                           replace hx291_1 := (cne 0 hn291_0 (.string ((e0_ l0 l2 x13_1 x14_2).f0))).trans hx291_1
                           replace hx291_2 := (cne 0 hn291_0 (.string ((e0_ l0 l2 x13_1 x14_2).f0))).trans hx291_2
                           replace hx291_3 := (cne 0 hn291_0 (.string ((e0_ l0 l2 x13_1 x14_2).f0))).trans hx291_3
                           replace hx291_0 := (cne 1 hn291_1 (.string ((e0_ l0 l2 x13_1 x14_2).f1))).trans hx291_0
                           replace hx291_1 := (cne 1 hn291_1 (.string ((e0_ l0 l2 x13_1 x14_2).f1))).trans hx291_1
                           replace hx291_2 := (cne 1 hn291_1 (.string ((e0_ l0 l2 x13_1 x14_2).f1))).trans hx291_2
                           replace hx291_3 := (cne 1 hn291_1 (.string ((e0_ l0 l2 x13_1 x14_2).f1))).trans hx291_3
                           replace hx291_0 := (cne 2 hn291_2 (.int .u64 ((e0_ l0 l2 x13_1 x14_2).f2))).trans hx291_0
                           replace hx291_1 := (cne 2 hn291_2 (.int .u64 ((e0_ l0 l2 x13_1 x14_2).f2))).trans hx291_1
                           replace hx291_2 := (cne 2 hn291_2 (.int .u64 ((e0_ l0 l2 x13_1 x14_2).f2))).trans hx291_2
                           replace hx291_3 := (cne 2 hn291_2 (.int .u64 ((e0_ l0 l2 x13_1 x14_2).f2))).trans hx291_3
                           replace hx291_0 := (cne 3 hn291_3 (.int .u64 ((e0_ l0 l2 x13_1 x14_2).f3))).trans hx291_0
                           replace hx291_1 := (cne 3 hn291_3 (.int .u64 ((e0_ l0 l2 x13_1 x14_2).f3))).trans hx291_1
                           replace hx291_2 := (cne 3 hn291_3 (.int .u64 ((e0_ l0 l2 x13_1 x14_2).f3))).trans hx291_2
                           replace hx291_3 := (cne 3 hn291_3 (.int .u64 ((e0_ l0 l2 x13_1 x14_2).f3))).trans hx291_3
                           replace hx291_0 := (cne 4 hn291_4 (.int .i64 ((e0_ l0 l2 x13_1 x14_2).f4))).trans hx291_0
                           replace hx291_1 := (cne 4 hn291_4 (.int .i64 ((e0_ l0 l2 x13_1 x14_2).f4))).trans hx291_1
                           replace hx291_2 := (cne 4 hn291_4 (.int .i64 ((e0_ l0 l2 x13_1 x14_2).f4))).trans hx291_2
                           replace hx291_3 := (cne 4 hn291_4 (.int .i64 ((e0_ l0 l2 x13_1 x14_2).f4))).trans hx291_3
                           replace hx291_0 := (cne 5 hn291_5 (.int .i64 ((e0_ l0 l2 x13_1 x14_2).f5))).trans hx291_0
                           replace hx291_1 := (cne 5 hn291_5 (.int .i64 ((e0_ l0 l2 x13_1 x14_2).f5))).trans hx291_1
                           replace hx291_2 := (cne 5 hn291_5 (.int .i64 ((e0_ l0 l2 x13_1 x14_2).f5))).trans hx291_2
                           replace hx291_3 := (cne 5 hn291_5 (.int .i64 ((e0_ l0 l2 x13_1 x14_2).f5))).trans hx291_3
                           replace hx291_0 := (cne 6 hn291_6 (.int .i64 ((e0_ l0 l2 x13_1 x14_2).f6))).trans hx291_0
                           replace hx291_1 := (cne 6 hn291_6 (.int .i64 ((e0_ l0 l2 x13_1 x14_2).f6))).trans hx291_1
                           replace hx291_2 := (cne 6 hn291_6 (.int .i64 ((e0_ l0 l2 x13_1 x14_2).f6))).trans hx291_2
                           replace hx291_3 := (cne 6 hn291_6 (.int .i64 ((e0_ l0 l2 x13_1 x14_2).f6))).trans hx291_3
                           replace hx291_0 := (cne 7 hn291_7 (.bool ((e0_ l0 l2 x13_1 x14_2).f7))).trans hx291_0
                           replace hx291_1 := (cne 7 hn291_7 (.bool ((e0_ l0 l2 x13_1 x14_2).f7))).trans hx291_1
                           replace hx291_2 := (cne 7 hn291_7 (.bool ((e0_ l0 l2 x13_1 x14_2).f7))).trans hx291_2
                           replace hx291_3 := (cne 7 hn291_7 (.bool ((e0_ l0 l2 x13_1 x14_2).f7))).trans hx291_3
                           clear hn291_0 hn291_1 hn291_2 hn291_3 hn291_4 hn291_5 hn291_6 hn291_7
                           replace p291 := eq_true p291
                           replace q291 := eq_true q291
                           go_upto_region 23 with (fail)
                           go_cut [180] (fun v180 wc => ∃ (kq : Nat) (x180_85 : Bool), v180 = .bool x180_85 ∧ Aside0 (curtilagelaw15_PlanWhole.j3 kq l0 l2 t267 t269 x12_2 x13_1 x14_2 x180_85 ((e0_ l0 l2 x13_1 x14_2).f0) ((e0_ l0 l2 x13_1 x14_2).f1) ((e0_ l0 l2 x13_1 x14_2).f2) ((e0_ l0 l2 x13_1 x14_2).f3) ((e0_ l0 l2 x13_1 x14_2).f4) ((e0_ l0 l2 x13_1 x14_2).f5) ((e0_ l0 l2 x13_1 x14_2).f6) ((e0_ l0 l2 x13_1 x14_2).f7) = some r) ∧ Aside0 (kq ≤ kj20) ∧ Aside0 (Kd.R k28 28 wc w.heap.size (fun k_ => k_ ≠ gb277) (.slice (some ad291) t269.length co97) t269) ∧ Aside0 (wc.heap[gb277]? = some (.cells #[.int .i64 t272, .int .i64 t273, .int .i64 t274, .int .i64 t275] 28 (0, 0))) ∧ Aside0 (wc.heap[gb290]? = some (.cells #[.string ((e0_ l0 l2 x13_1 x14_2).f0), .string ((e0_ l0 l2 x13_1 x14_2).f1), .int .u64 ((e0_ l0 l2 x13_1 x14_2).f2), .int .u64 ((e0_ l0 l2 x13_1 x14_2).f3), .int .i64 ((e0_ l0 l2 x13_1 x14_2).f4), .int .i64 ((e0_ l0 l2 x13_1 x14_2).f5), .int .i64 ((e0_ l0 l2 x13_1 x14_2).f6), .bool ((e0_ l0 l2 x13_1 x14_2).f7)] 42 (0, 0))) ∧ Aside0 (Below w.heap.size w wc))
                           case first =>
                            have H := HC86.out
                            clear HC86
                            as_aux_lemma =>
                             by_cases c98 : ((rd_T28 t269 x12_2).f2) ≥ (l0.length : Int)
                             ·rw [if_pos c98] at H
                              have c98b0 : decide ((l0.length : Int) ≤ ((rd_T28 t269 x12_2).f2)) = true := decide_eq_true c98
                              clear c98
                              (first | rw [c98b0] | (simp only [i64_w, i32_w]; rw [c98b0]) | skip)
                              have H' := am H
                              clear H
                              try go_wp2
                              have n0_ : Aside0 (Kd.R k28 28 ((((((((w88.setCell ⟨gb290, 0, none⟩ (.string ((e0_ l0 l2 x13_1 x14_2).f0))).setCell ⟨gb290, 1, none⟩ (.string ((e0_ l0 l2 x13_1 x14_2).f1))).setCell ⟨gb290, 2, none⟩ (.int .u64 ((e0_ l0 l2 x13_1 x14_2).f2))).setCell ⟨gb290, 3, none⟩ (.int .u64 ((e0_ l0 l2 x13_1 x14_2).f3))).setCell ⟨gb290, 4, none⟩ (.int .i64 ((e0_ l0 l2 x13_1 x14_2).f4))).setCell ⟨gb290, 5, none⟩ (.int .i64 ((e0_ l0 l2 x13_1 x14_2).f5))).setCell ⟨gb290, 6, none⟩ (.int .i64 ((e0_ l0 l2 x13_1 x14_2).f6))).setCell ⟨gb290, 7, none⟩ (.bool ((e0_ l0 l2 x13_1 x14_2).f7))) w.heap.size (fun k_ => k_ ≠ gb277) (.slice (some ad291) t269.length co97) t269) := ⟨by (with_reducible repeat (first | apply Kd.R_alloc | apply Kd.R_drewN | apply Kd.R_drew)); exact Kd.R_mono (Kd.R_far (p := ⟨gb290, 7, none⟩) (Kd.R_far (p := ⟨gb290, 6, none⟩) (Kd.R_far (p := ⟨gb290, 5, none⟩) (Kd.R_far (p := ⟨gb290, 4, none⟩) (Kd.R_far (p := ⟨gb290, 3, none⟩) (Kd.R_far (p := ⟨gb290, 2, none⟩) (Kd.R_far (p := ⟨gb290, 1, none⟩) (Kd.R_far (p := ⟨gb290, 0, none⟩) (Kd.R_types HO_9.out BK290.out (by decide)) (fun _ hk => hk.2) (.string ((e0_ l0 l2 x13_1 x14_2).f0))) (fun _ hk => hk.2) (.string ((e0_ l0 l2 x13_1 x14_2).f1))) (fun _ hk => hk.2) (.int .u64 ((e0_ l0 l2 x13_1 x14_2).f2))) (fun _ hk => hk.2) (.int .u64 ((e0_ l0 l2 x13_1 x14_2).f3))) (fun _ hk => hk.2) (.int .i64 ((e0_ l0 l2 x13_1 x14_2).f4))) (fun _ hk => hk.2) (.int .i64 ((e0_ l0 l2 x13_1 x14_2).f5))) (fun _ hk => hk.2) (.int .i64 ((e0_ l0 l2 x13_1 x14_2).f6))) (fun _ hk => hk.2) (.bool ((e0_ l0 l2 x13_1 x14_2).f7))) (fun _ hk => hk.1)⟩
                              have n1_ : Aside0 (((((((((w88.setCell ⟨gb290, 0, none⟩ (.string ((e0_ l0 l2 x13_1 x14_2).f0))).setCell ⟨gb290, 1, none⟩ (.string ((e0_ l0 l2 x13_1 x14_2).f1))).setCell ⟨gb290, 2, none⟩ (.int .u64 ((e0_ l0 l2 x13_1 x14_2).f2))).setCell ⟨gb290, 3, none⟩ (.int .u64 ((e0_ l0 l2 x13_1 x14_2).f3))).setCell ⟨gb290, 4, none⟩ (.int .i64 ((e0_ l0 l2 x13_1 x14_2).f4))).setCell ⟨gb290, 5, none⟩ (.int .i64 ((e0_ l0 l2 x13_1 x14_2).f5))).setCell ⟨gb290, 6, none⟩ (.int .i64 ((e0_ l0 l2 x13_1 x14_2).f6))).setCell ⟨gb290, 7, none⟩ (.bool ((e0_ l0 l2 x13_1 x14_2).f7))).heap[gb277]? = some (.cells #[.int .i64 t272, .int .i64 t273, .int .i64 t274, .int .i64 t275] 28 (0, 0))) := ⟨by (iterate 8 ((with_reducible repeat (first | refine blk_drewN ?_ _ | refine blk_drew ?_ | refine blk_alloc ?_ _)); refine blk_far ?_ NB277_290.out _)); (with_reducible repeat (first | refine blk_drewN ?_ _ | refine blk_drew ?_ | refine blk_alloc ?_ _)); exact BK277.out⟩
                              have n2_ : Aside0 (((((((((w88.setCell ⟨gb290, 0, none⟩ (.string ((e0_ l0 l2 x13_1 x14_2).f0))).setCell ⟨gb290, 1, none⟩ (.string ((e0_ l0 l2 x13_1 x14_2).f1))).setCell ⟨gb290, 2, none⟩ (.int .u64 ((e0_ l0 l2 x13_1 x14_2).f2))).setCell ⟨gb290, 3, none⟩ (.int .u64 ((e0_ l0 l2 x13_1 x14_2).f3))).setCell ⟨gb290, 4, none⟩ (.int .i64 ((e0_ l0 l2 x13_1 x14_2).f4))).setCell ⟨gb290, 5, none⟩ (.int .i64 ((e0_ l0 l2 x13_1 x14_2).f5))).setCell ⟨gb290, 6, none⟩ (.int .i64 ((e0_ l0 l2 x13_1 x14_2).f6))).setCell ⟨gb290, 7, none⟩ (.bool ((e0_ l0 l2 x13_1 x14_2).f7))).heap[gb290]? = some (.cells #[.string ((e0_ l0 l2 x13_1 x14_2).f0), .string ((e0_ l0 l2 x13_1 x14_2).f1), .int .u64 ((e0_ l0 l2 x13_1 x14_2).f2), .int .u64 ((e0_ l0 l2 x13_1 x14_2).f3), .int .i64 ((e0_ l0 l2 x13_1 x14_2).f4), .int .i64 ((e0_ l0 l2 x13_1 x14_2).f5), .int .i64 ((e0_ l0 l2 x13_1 x14_2).f6), .bool ((e0_ l0 l2 x13_1 x14_2).f7)] 42 (0, 0))) := ⟨by (with_reducible repeat (first | refine blk_drewN ?_ _ | refine blk_drew ?_ | refine blk_alloc ?_ _)); refine blk_put (cs := #[.string ((e0_ l0 l2 x13_1 x14_2).f0), .string ((e0_ l0 l2 x13_1 x14_2).f1), .int .u64 ((e0_ l0 l2 x13_1 x14_2).f2), .int .u64 ((e0_ l0 l2 x13_1 x14_2).f3), .int .i64 ((e0_ l0 l2 x13_1 x14_2).f4), .int .i64 ((e0_ l0 l2 x13_1 x14_2).f5), .int .i64 ((e0_ l0 l2 x13_1 x14_2).f6), .bool false]) ?_ 7 _ rfl; (with_reducible repeat (first | refine blk_drewN ?_ _ | refine blk_drew ?_ | refine blk_alloc ?_ _)); refine blk_put (cs := #[.string ((e0_ l0 l2 x13_1 x14_2).f0), .string ((e0_ l0 l2 x13_1 x14_2).f1), .int .u64 ((e0_ l0 l2 x13_1 x14_2).f2), .int .u64 ((e0_ l0 l2 x13_1 x14_2).f3), .int .i64 ((e0_ l0 l2 x13_1 x14_2).f4), .int .i64 ((e0_ l0 l2 x13_1 x14_2).f5), .int .i64 0, .bool false]) ?_ 6 _ rfl; (with_reducible repeat (first | refine blk_drewN ?_ _ | refine blk_drew ?_ | refine blk_alloc ?_ _)); refine blk_put (cs := #[.string ((e0_ l0 l2 x13_1 x14_2).f0), .string ((e0_ l0 l2 x13_1 x14_2).f1), .int .u64 ((e0_ l0 l2 x13_1 x14_2).f2), .int .u64 ((e0_ l0 l2 x13_1 x14_2).f3), .int .i64 ((e0_ l0 l2 x13_1 x14_2).f4), .int .i64 0, .int .i64 0, .bool false]) ?_ 5 _ rfl; (with_reducible repeat (first | refine blk_drewN ?_ _ | refine blk_drew ?_ | refine blk_alloc ?_ _)); refine blk_put (cs := #[.string ((e0_ l0 l2 x13_1 x14_2).f0), .string ((e0_ l0 l2 x13_1 x14_2).f1), .int .u64 ((e0_ l0 l2 x13_1 x14_2).f2), .int .u64 ((e0_ l0 l2 x13_1 x14_2).f3), .int .i64 0, .int .i64 0, .int .i64 0, .bool false]) ?_ 4 _ rfl; (with_reducible repeat (first | refine blk_drewN ?_ _ | refine blk_drew ?_ | refine blk_alloc ?_ _)); refine blk_put (cs := #[.string ((e0_ l0 l2 x13_1 x14_2).f0), .string ((e0_ l0 l2 x13_1 x14_2).f1), .int .u64 ((e0_ l0 l2 x13_1 x14_2).f2), .int .u64 0, .int .i64 0, .int .i64 0, .int .i64 0, .bool false]) ?_ 3 _ rfl; (with_reducible repeat (first | refine blk_drewN ?_ _ | refine blk_drew ?_ | refine blk_alloc ?_ _)); refine blk_put (cs := #[.string ((e0_ l0 l2 x13_1 x14_2).f0), .string ((e0_ l0 l2 x13_1 x14_2).f1), .int .u64 0, .int .u64 0, .int .i64 0, .int .i64 0, .int .i64 0, .bool false]) ?_ 2 _ rfl; (with_reducible repeat (first | refine blk_drewN ?_ _ | refine blk_drew ?_ | refine blk_alloc ?_ _)); refine blk_put (cs := #[.string ((e0_ l0 l2 x13_1 x14_2).f0), .string (⟨#[]⟩ : ByteArray), .int .u64 0, .int .u64 0, .int .i64 0, .int .i64 0, .int .i64 0, .bool false]) ?_ 1 _ rfl; (with_reducible repeat (first | refine blk_drewN ?_ _ | refine blk_drew ?_ | refine blk_alloc ?_ _)); refine blk_put (cs := #[.string (⟨#[]⟩ : ByteArray), .string (⟨#[]⟩ : ByteArray), .int .u64 0, .int .u64 0, .int .i64 0, .int .i64 0, .int .i64 0, .bool false]) ?_ 0 _ rfl; (with_reducible repeat (first | refine blk_drewN ?_ _ | refine blk_drew ?_ | refine blk_alloc ?_ _)); exact BK290.out⟩
                              have n3_ : Aside0 (Below w.heap.size w ((((((((w88.setCell ⟨gb290, 0, none⟩ (.string ((e0_ l0 l2 x13_1 x14_2).f0))).setCell ⟨gb290, 1, none⟩ (.string ((e0_ l0 l2 x13_1 x14_2).f1))).setCell ⟨gb290, 2, none⟩ (.int .u64 ((e0_ l0 l2 x13_1 x14_2).f2))).setCell ⟨gb290, 3, none⟩ (.int .u64 ((e0_ l0 l2 x13_1 x14_2).f3))).setCell ⟨gb290, 4, none⟩ (.int .i64 ((e0_ l0 l2 x13_1 x14_2).f4))).setCell ⟨gb290, 5, none⟩ (.int .i64 ((e0_ l0 l2 x13_1 x14_2).f5))).setCell ⟨gb290, 6, none⟩ (.int .i64 ((e0_ l0 l2 x13_1 x14_2).f6))).setCell ⟨gb290, 7, none⟩ (.bool ((e0_ l0 l2 x13_1 x14_2).f7)))) := ⟨by repeat (first | (with_reducible first | exact HB.out | apply below_alloc | apply pw_below_drewN | apply below_drew1 | refine below_set ?_ GE277.out | refine below_set ?_ GE290.out) | exact HB.out)⟩
                              (try clear HO_9)
                              (try clear BK277)
                              (try clear BK290)
                              (try clear HB)
                              generalize ((((((((w88.setCell ⟨gb290, 0, none⟩ (.string ((e0_ l0 l2 x13_1 x14_2).f0))).setCell ⟨gb290, 1, none⟩ (.string ((e0_ l0 l2 x13_1 x14_2).f1))).setCell ⟨gb290, 2, none⟩ (.int .u64 ((e0_ l0 l2 x13_1 x14_2).f2))).setCell ⟨gb290, 3, none⟩ (.int .u64 ((e0_ l0 l2 x13_1 x14_2).f3))).setCell ⟨gb290, 4, none⟩ (.int .i64 ((e0_ l0 l2 x13_1 x14_2).f4))).setCell ⟨gb290, 5, none⟩ (.int .i64 ((e0_ l0 l2 x13_1 x14_2).f5))).setCell ⟨gb290, 6, none⟩ (.int .i64 ((e0_ l0 l2 x13_1 x14_2).f6))).setCell ⟨gb290, 7, none⟩ (.bool ((e0_ l0 l2 x13_1 x14_2).f7))) = w99 at n0_ n1_ n2_ n3_ ⊢
                              revert n0_ n1_ n2_ n3_
                              intro HO_9 BK277 BK290 HB
                              have n0_ := am (Kd.R_drew HO_9.out)
                              have n1_ := am (blk_drew BK277.out)
                              have n2_ := am (blk_drew BK290.out)
                              have n3_ := am (below_drew1 HB.out)
                              revert n0_ n1_ n2_ n3_
                              clear HO_9 BK277 BK290 HB
                              intro HO_9 BK277 BK290 HB
                              have p292 : 0 ≤ (x12_2 : Int) := ud
                              have q292 : x12_2 < (t269.length : Int) := ud
                              obtain ⟨ad292, e292, hx292_0, hx292_1, hx292_2, hx292_3⟩ := at_T28 (Kd.R_reads' HO_9.out).2.2 x12_2 p292 q292
                              obtain rfl : ad291 = ad292 := (by injection e292)
                              replace p292 := eq_true p292
                              replace q292 := eq_true q292
                              refine start_ (n := 34) (S := fun w' => w'.cell? (ad291.add ((x12_2).toNat * 4)) = some (.int .i64 ((rd_T28 t269 x12_2).f0)) ∧ w'.cell? ⟨(ad291.add ((x12_2).toNat * 4)).block, (ad291.add ((x12_2).toNat * 4)).off + 1, none⟩ = some (.int .i64 ((rd_T28 t269 x12_2).f1)) ∧ w'.cell? ⟨(ad291.add ((x12_2).toNat * 4)).block, (ad291.add ((x12_2).toNat * 4)).off + 2, none⟩ = some (.int .i64 ((rd_T28 t269 x12_2).f2)) ∧ w'.cell? ⟨(ad291.add ((x12_2).toNat * 4)).block, (ad291.add ((x12_2).toNat * 4)).off + 3, none⟩ = some (.int .i64 ((rd_T28 t269 x12_2).f3))) (ds := []) #[false, false, false, false, false, false, false, false, false, false, false, false, false, false, false, false, false, false, false, false, false, false, false, false, false, false, false, false, false, false, false, false, false, false] (by kernel_rfl) rfl rfl ⟨hx292_0, hx292_1, hx292_2, hx292_3⟩ (fun hHeld => ?_); refine with_tabW curtilagelaw15_PlanWhole.tab23 curtilagelaw15_PlanWhole.bits23 (fun HT_ HW_ => ?_)
                              generalize w99.drew = w100 at HO_9 BK277 BK290 HB hx292_0 hx292_1 hx292_2 hx292_3 hHeld ⊢
                              refine pu 0 147 (bA 34 1) HT_ ?_ ?_ ?_ ?_ ?_; rotate_left; (intro w'; go_simp; with_reducible rfl); rotate_left; (simp only [Act.put, s1, s2, s3, i64_w, i32_w]; rfl)
                              refine pu 1 148 (bA 34 3) HT_ ?_ ?_ ?_ ?_ ?_; rotate_left; (intro w'; go_simp; with_reducible rfl); rotate_left; (simp only [Act.put, s1, s2, s3, i64_w, i32_w]; rfl)
                              refine pu 2 149 (bA 34 7) HT_ ?_ ?_ ?_ ?_ ?_; rotate_left; (intro w'; go_simp; with_reducible rfl); rotate_left; (simp only [Act.put, s1, s2, s3, i64_w, i32_w]; rfl)
                              refine pu 3 150 (bA 34 15) HT_ ?_ ?_ ?_ ?_ ?_; rotate_left; (intro w'; go_simp; with_reducible rfl); rotate_left; (simp only [Act.put, s1, s2, s3, i64_w, i32_w]; rfl)
                              refine pu 5 152 (bA 34 47) HT_ ?_ ?_ ?_ ?_ ?_; rotate_left; (intro w'; go_simp; with_reducible rfl); rotate_left; (simp only [Act.put, s1, s2, s3, i64_w, i32_w]; rfl)
                              refine pu 6 153 (bA 34 111) HT_ ?_ ?_ ?_ ?_ ?_; rotate_left; (intro w'; go_simp; with_reducible rfl); rotate_left; (simp only [Act.put, s1, s2, s3, i64_w, i32_w]; rfl)
                              refine ta 4 151 (bA 34 127) HT_ HW_ ?_ ?_ hHeld ?_ ?_ ?_; rotate_left; (rintro w' ⟨s0, s1, s2, s3⟩; go_simp; with_reducible rfl); rotate_left; (simp only [Act.put, s1, s2, s3, i64_w, i32_w]; rfl)
                              refine pu 7 154 (bA 34 255) HT_ ?_ ?_ ?_ ?_ ?_; rotate_left; (intro w'; go_simp; with_reducible rfl); rotate_left; (simp only [Act.put, s1, s2, s3, i64_w, i32_w]; rfl)
                              refine pu 8 155 (bA 34 511) HT_ ?_ ?_ ?_ ?_ ?_; rotate_left; (intro w'; go_simp; with_reducible rfl); rotate_left; (simp only [Act.put, s1, s2, s3, i64_w, i32_w]; rfl)
                              refine pn 9 156 (bA 34 1023) HT_ ?_ ?_ ?_; rotate_left; (simp only [Act.put, s1, s2, s3, i64_w, i32_w]; rfl)
                              refine pn 10 157 (bA 34 2047) HT_ ?_ ?_ ?_; rotate_left; (simp only [Act.put, s1, s2, s3, i64_w, i32_w]; rfl)
                              refine pn 11 158 (bA 34 4095) HT_ ?_ ?_ ?_; rotate_left; (simp only [Act.put, s1, s2, s3, i64_w, i32_w]; rfl)
                              refine pn 12 159 (bA 34 8191) HT_ ?_ ?_ ?_; rotate_left; (simp only [Act.put, s1, s2, s3, i64_w, i32_w]; rfl)
                              refine pn 13 160 (bA 34 16383) HT_ ?_ ?_ ?_; rotate_left; (simp only [Act.put, s1, s2, s3, i64_w, i32_w]; rfl)
                              refine pn 14 161 (bA 34 32767) HT_ ?_ ?_ ?_; rotate_left; (simp only [Act.put, s1, s2, s3, i64_w, i32_w]; rfl)
                              refine pu 15 162 (bA 34 65535) HT_ ?_ ?_ ?_ ?_ ?_; rotate_left; (intro w'; go_simp; with_reducible rfl); rotate_left; (simp only [Act.put, s1, s2, s3, i64_w, i32_w]; rfl)
                              refine pu 16 163 (bA 34 131071) HT_ ?_ ?_ ?_ ?_ ?_; rotate_left; (intro w'; go_simp; with_reducible rfl); rotate_left; (simp only [Act.put, s1, s2, s3, i64_w, i32_w]; rfl)
                              refine pn 17 164 (bA 34 262143) HT_ ?_ ?_ ?_; rotate_left; (simp only [Act.put, s1, s2, s3, i64_w, i32_w]; rfl)
                              refine pn 18 165 (bA 34 524287) HT_ ?_ ?_ ?_; rotate_left; (simp only [Act.put, s1, s2, s3, i64_w, i32_w]; rfl)
                              refine pn 19 166 (bA 34 1048575) HT_ ?_ ?_ ?_; rotate_left; (simp only [Act.put, s1, s2, s3, i64_w, i32_w]; rfl)
                              refine pn 20 167 (bA 34 2097151) HT_ ?_ ?_ ?_; rotate_left; (simp only [Act.put, s1, s2, s3, i64_w, i32_w]; rfl)
                              refine pn 21 168 (bA 34 4194303) HT_ ?_ ?_ ?_; rotate_left; (simp only [Act.put, s1, s2, s3, i64_w, i32_w]; rfl)
                              refine pn 22 169 (bA 34 8388607) HT_ ?_ ?_ ?_; rotate_left; (simp only [Act.put, s1, s2, s3, i64_w, i32_w]; rfl)
                              refine pn 23 170 (bA 34 16777215) HT_ ?_ ?_ ?_; rotate_left; (simp only [Act.put, s1, s2, s3, i64_w, i32_w]; rfl)
                              refine pn 24 171 (bA 34 33554431) HT_ ?_ ?_ ?_; rotate_left; (simp only [Act.put, s1, s2, s3, i64_w, i32_w]; rfl)
                              refine pn 25 172 (bA 34 67108863) HT_ ?_ ?_ ?_; rotate_left; (simp only [Act.put, s1, s2, s3, i64_w, i32_w]; rfl)
                              refine pn 26 173 (bA 34 134217727) HT_ ?_ ?_ ?_; rotate_left; (simp only [Act.put, s1, s2, s3, i64_w, i32_w]; rfl)
                              refine pn 27 174 (bA 34 268435455) HT_ ?_ ?_ ?_; rotate_left; (simp only [Act.put, s1, s2, s3, i64_w, i32_w]; rfl)
                              refine pn 28 175 (bA 34 536870911) HT_ ?_ ?_ ?_; rotate_left; (simp only [Act.put, s1, s2, s3, i64_w, i32_w]; rfl)
                              refine pn 29 176 (bA 34 1073741823) HT_ ?_ ?_ ?_; rotate_left; (simp only [Act.put, s1, s2, s3, i64_w, i32_w]; rfl)
                              refine pn 30 177 (bA 34 2147483647) HT_ ?_ ?_ ?_; rotate_left; (simp only [Act.put, s1, s2, s3, i64_w, i32_w]; rfl)
                              refine pn 31 178 (bA 34 4294967295) HT_ ?_ ?_ ?_; rotate_left; (simp only [Act.put, s1, s2, s3, i64_w, i32_w]; rfl)
                              refine pn 32 179 (bA 34 8589934591) HT_ ?_ ?_ ?_; rotate_left; (simp only [Act.put, s1, s2, s3, i64_w, i32_w]; rfl)
                              refine pu 33 180 (bA 34 17179869183) HT_ ?_ ?_ ?_ ?_ ?_; rotate_left; (intro w'; go_simp; with_reducible rfl); rotate_left; (simp only [Act.put, s1, s2, s3, i64_w, i32_w]; rfl)
                              refine done_ (done_of HT_.out (by kernel_rfl)) ?_
                              try go_wp2
                              go_meet
                              case rel => exact ⟨_, (true), uf, (by first | exact H' | (rw [← Nbq44.out]; exact H')), ⟨by have := HK1.out; have := HK2.out; have := HJ20.out; first | omega | exact Nat.le_refl _⟩, ⟨by (with_reducible repeat (first | apply Kd.R_alloc | apply Kd.R_drewN | apply Kd.R_drew)); exact HO_9.out⟩, ⟨by (with_reducible repeat (first | refine blk_drewN ?_ _ | refine blk_drew ?_ | refine blk_alloc ?_ _)); first | exact BK277.out | (rw [← Nbq44.out]; exact BK277.out)⟩, ⟨by (with_reducible repeat (first | refine blk_drewN ?_ _ | refine blk_drew ?_ | refine blk_alloc ?_ _)); first | exact BK290.out | (rw [← Nbq44.out]; exact BK290.out)⟩, ⟨by repeat (first | (with_reducible first | exact HB.out | apply below_alloc | apply pw_below_drewN | apply below_drew1 | refine below_set ?_ GE277.out | refine below_set ?_ GE290.out) | exact HB.out)⟩⟩
                             ·rw [if_neg c98] at H
                              have c98b0 : decide ((l0.length : Int) ≤ ((rd_T28 t269 x12_2).f2)) = false := decide_eq_false c98
                              clear c98
                              (first | rw [c98b0] | (simp only [i64_w, i32_w]; rw [c98b0]) | skip)
                              by_cases c101 : ((rd_T28 t269 x12_2).f3) < 0
                              ·rw [if_pos c101] at H
                               have c101b0 : decide (((rd_T28 t269 x12_2).f3) < 0) = true := decide_eq_true c101
                               clear c101
                               have H' := am H
                               clear H
                               try go_wp2
                               have n0_ : Aside0 (Kd.R k28 28 ((((((((w88.setCell ⟨gb290, 0, none⟩ (.string ((e0_ l0 l2 x13_1 x14_2).f0))).setCell ⟨gb290, 1, none⟩ (.string ((e0_ l0 l2 x13_1 x14_2).f1))).setCell ⟨gb290, 2, none⟩ (.int .u64 ((e0_ l0 l2 x13_1 x14_2).f2))).setCell ⟨gb290, 3, none⟩ (.int .u64 ((e0_ l0 l2 x13_1 x14_2).f3))).setCell ⟨gb290, 4, none⟩ (.int .i64 ((e0_ l0 l2 x13_1 x14_2).f4))).setCell ⟨gb290, 5, none⟩ (.int .i64 ((e0_ l0 l2 x13_1 x14_2).f5))).setCell ⟨gb290, 6, none⟩ (.int .i64 ((e0_ l0 l2 x13_1 x14_2).f6))).setCell ⟨gb290, 7, none⟩ (.bool ((e0_ l0 l2 x13_1 x14_2).f7))) w.heap.size (fun k_ => k_ ≠ gb277) (.slice (some ad291) t269.length co97) t269) := ⟨by (with_reducible repeat (first | apply Kd.R_alloc | apply Kd.R_drewN | apply Kd.R_drew)); exact Kd.R_mono (Kd.R_far (p := ⟨gb290, 7, none⟩) (Kd.R_far (p := ⟨gb290, 6, none⟩) (Kd.R_far (p := ⟨gb290, 5, none⟩) (Kd.R_far (p := ⟨gb290, 4, none⟩) (Kd.R_far (p := ⟨gb290, 3, none⟩) (Kd.R_far (p := ⟨gb290, 2, none⟩) (Kd.R_far (p := ⟨gb290, 1, none⟩) (Kd.R_far (p := ⟨gb290, 0, none⟩) (Kd.R_types HO_9.out BK290.out (by decide)) (fun _ hk => hk.2) (.string ((e0_ l0 l2 x13_1 x14_2).f0))) (fun _ hk => hk.2) (.string ((e0_ l0 l2 x13_1 x14_2).f1))) (fun _ hk => hk.2) (.int .u64 ((e0_ l0 l2 x13_1 x14_2).f2))) (fun _ hk => hk.2) (.int .u64 ((e0_ l0 l2 x13_1 x14_2).f3))) (fun _ hk => hk.2) (.int .i64 ((e0_ l0 l2 x13_1 x14_2).f4))) (fun _ hk => hk.2) (.int .i64 ((e0_ l0 l2 x13_1 x14_2).f5))) (fun _ hk => hk.2) (.int .i64 ((e0_ l0 l2 x13_1 x14_2).f6))) (fun _ hk => hk.2) (.bool ((e0_ l0 l2 x13_1 x14_2).f7))) (fun _ hk => hk.1)⟩
                               have n1_ : Aside0 (((((((((w88.setCell ⟨gb290, 0, none⟩ (.string ((e0_ l0 l2 x13_1 x14_2).f0))).setCell ⟨gb290, 1, none⟩ (.string ((e0_ l0 l2 x13_1 x14_2).f1))).setCell ⟨gb290, 2, none⟩ (.int .u64 ((e0_ l0 l2 x13_1 x14_2).f2))).setCell ⟨gb290, 3, none⟩ (.int .u64 ((e0_ l0 l2 x13_1 x14_2).f3))).setCell ⟨gb290, 4, none⟩ (.int .i64 ((e0_ l0 l2 x13_1 x14_2).f4))).setCell ⟨gb290, 5, none⟩ (.int .i64 ((e0_ l0 l2 x13_1 x14_2).f5))).setCell ⟨gb290, 6, none⟩ (.int .i64 ((e0_ l0 l2 x13_1 x14_2).f6))).setCell ⟨gb290, 7, none⟩ (.bool ((e0_ l0 l2 x13_1 x14_2).f7))).heap[gb277]? = some (.cells #[.int .i64 t272, .int .i64 t273, .int .i64 t274, .int .i64 t275] 28 (0, 0))) := ⟨by (iterate 8 ((with_reducible repeat (first | refine blk_drewN ?_ _ | refine blk_drew ?_ | refine blk_alloc ?_ _)); refine blk_far ?_ NB277_290.out _)); (with_reducible repeat (first | refine blk_drewN ?_ _ | refine blk_drew ?_ | refine blk_alloc ?_ _)); exact BK277.out⟩
                               have n2_ : Aside0 (((((((((w88.setCell ⟨gb290, 0, none⟩ (.string ((e0_ l0 l2 x13_1 x14_2).f0))).setCell ⟨gb290, 1, none⟩ (.string ((e0_ l0 l2 x13_1 x14_2).f1))).setCell ⟨gb290, 2, none⟩ (.int .u64 ((e0_ l0 l2 x13_1 x14_2).f2))).setCell ⟨gb290, 3, none⟩ (.int .u64 ((e0_ l0 l2 x13_1 x14_2).f3))).setCell ⟨gb290, 4, none⟩ (.int .i64 ((e0_ l0 l2 x13_1 x14_2).f4))).setCell ⟨gb290, 5, none⟩ (.int .i64 ((e0_ l0 l2 x13_1 x14_2).f5))).setCell ⟨gb290, 6, none⟩ (.int .i64 ((e0_ l0 l2 x13_1 x14_2).f6))).setCell ⟨gb290, 7, none⟩ (.bool ((e0_ l0 l2 x13_1 x14_2).f7))).heap[gb290]? = some (.cells #[.string ((e0_ l0 l2 x13_1 x14_2).f0), .string ((e0_ l0 l2 x13_1 x14_2).f1), .int .u64 ((e0_ l0 l2 x13_1 x14_2).f2), .int .u64 ((e0_ l0 l2 x13_1 x14_2).f3), .int .i64 ((e0_ l0 l2 x13_1 x14_2).f4), .int .i64 ((e0_ l0 l2 x13_1 x14_2).f5), .int .i64 ((e0_ l0 l2 x13_1 x14_2).f6), .bool ((e0_ l0 l2 x13_1 x14_2).f7)] 42 (0, 0))) := ⟨by (with_reducible repeat (first | refine blk_drewN ?_ _ | refine blk_drew ?_ | refine blk_alloc ?_ _)); refine blk_put (cs := #[.string ((e0_ l0 l2 x13_1 x14_2).f0), .string ((e0_ l0 l2 x13_1 x14_2).f1), .int .u64 ((e0_ l0 l2 x13_1 x14_2).f2), .int .u64 ((e0_ l0 l2 x13_1 x14_2).f3), .int .i64 ((e0_ l0 l2 x13_1 x14_2).f4), .int .i64 ((e0_ l0 l2 x13_1 x14_2).f5), .int .i64 ((e0_ l0 l2 x13_1 x14_2).f6), .bool false]) ?_ 7 _ rfl; (with_reducible repeat (first | refine blk_drewN ?_ _ | refine blk_drew ?_ | refine blk_alloc ?_ _)); refine blk_put (cs := #[.string ((e0_ l0 l2 x13_1 x14_2).f0), .string ((e0_ l0 l2 x13_1 x14_2).f1), .int .u64 ((e0_ l0 l2 x13_1 x14_2).f2), .int .u64 ((e0_ l0 l2 x13_1 x14_2).f3), .int .i64 ((e0_ l0 l2 x13_1 x14_2).f4), .int .i64 ((e0_ l0 l2 x13_1 x14_2).f5), .int .i64 0, .bool false]) ?_ 6 _ rfl; (with_reducible repeat (first | refine blk_drewN ?_ _ | refine blk_drew ?_ | refine blk_alloc ?_ _)); refine blk_put (cs := #[.string ((e0_ l0 l2 x13_1 x14_2).f0), .string ((e0_ l0 l2 x13_1 x14_2).f1), .int .u64 ((e0_ l0 l2 x13_1 x14_2).f2), .int .u64 ((e0_ l0 l2 x13_1 x14_2).f3), .int .i64 ((e0_ l0 l2 x13_1 x14_2).f4), .int .i64 0, .int .i64 0, .bool false]) ?_ 5 _ rfl; (with_reducible repeat (first | refine blk_drewN ?_ _ | refine blk_drew ?_ | refine blk_alloc ?_ _)); refine blk_put (cs := #[.string ((e0_ l0 l2 x13_1 x14_2).f0), .string ((e0_ l0 l2 x13_1 x14_2).f1), .int .u64 ((e0_ l0 l2 x13_1 x14_2).f2), .int .u64 ((e0_ l0 l2 x13_1 x14_2).f3), .int .i64 0, .int .i64 0, .int .i64 0, .bool false]) ?_ 4 _ rfl; (with_reducible repeat (first | refine blk_drewN ?_ _ | refine blk_drew ?_ | refine blk_alloc ?_ _)); refine blk_put (cs := #[.string ((e0_ l0 l2 x13_1 x14_2).f0), .string ((e0_ l0 l2 x13_1 x14_2).f1), .int .u64 ((e0_ l0 l2 x13_1 x14_2).f2), .int .u64 0, .int .i64 0, .int .i64 0, .int .i64 0, .bool false]) ?_ 3 _ rfl; (with_reducible repeat (first | refine blk_drewN ?_ _ | refine blk_drew ?_ | refine blk_alloc ?_ _)); refine blk_put (cs := #[.string ((e0_ l0 l2 x13_1 x14_2).f0), .string ((e0_ l0 l2 x13_1 x14_2).f1), .int .u64 0, .int .u64 0, .int .i64 0, .int .i64 0, .int .i64 0, .bool false]) ?_ 2 _ rfl; (with_reducible repeat (first | refine blk_drewN ?_ _ | refine blk_drew ?_ | refine blk_alloc ?_ _)); refine blk_put (cs := #[.string ((e0_ l0 l2 x13_1 x14_2).f0), .string (⟨#[]⟩ : ByteArray), .int .u64 0, .int .u64 0, .int .i64 0, .int .i64 0, .int .i64 0, .bool false]) ?_ 1 _ rfl; (with_reducible repeat (first | refine blk_drewN ?_ _ | refine blk_drew ?_ | refine blk_alloc ?_ _)); refine blk_put (cs := #[.string (⟨#[]⟩ : ByteArray), .string (⟨#[]⟩ : ByteArray), .int .u64 0, .int .u64 0, .int .i64 0, .int .i64 0, .int .i64 0, .bool false]) ?_ 0 _ rfl; (with_reducible repeat (first | refine blk_drewN ?_ _ | refine blk_drew ?_ | refine blk_alloc ?_ _)); exact BK290.out⟩
                               have n3_ : Aside0 (Below w.heap.size w ((((((((w88.setCell ⟨gb290, 0, none⟩ (.string ((e0_ l0 l2 x13_1 x14_2).f0))).setCell ⟨gb290, 1, none⟩ (.string ((e0_ l0 l2 x13_1 x14_2).f1))).setCell ⟨gb290, 2, none⟩ (.int .u64 ((e0_ l0 l2 x13_1 x14_2).f2))).setCell ⟨gb290, 3, none⟩ (.int .u64 ((e0_ l0 l2 x13_1 x14_2).f3))).setCell ⟨gb290, 4, none⟩ (.int .i64 ((e0_ l0 l2 x13_1 x14_2).f4))).setCell ⟨gb290, 5, none⟩ (.int .i64 ((e0_ l0 l2 x13_1 x14_2).f5))).setCell ⟨gb290, 6, none⟩ (.int .i64 ((e0_ l0 l2 x13_1 x14_2).f6))).setCell ⟨gb290, 7, none⟩ (.bool ((e0_ l0 l2 x13_1 x14_2).f7)))) := ⟨by repeat (first | (with_reducible first | exact HB.out | apply below_alloc | apply pw_below_drewN | apply below_drew1 | refine below_set ?_ GE277.out | refine below_set ?_ GE290.out) | exact HB.out)⟩
                               (try clear HO_9)
                               (try clear BK277)
                               (try clear BK290)
                               (try clear HB)
                               generalize ((((((((w88.setCell ⟨gb290, 0, none⟩ (.string ((e0_ l0 l2 x13_1 x14_2).f0))).setCell ⟨gb290, 1, none⟩ (.string ((e0_ l0 l2 x13_1 x14_2).f1))).setCell ⟨gb290, 2, none⟩ (.int .u64 ((e0_ l0 l2 x13_1 x14_2).f2))).setCell ⟨gb290, 3, none⟩ (.int .u64 ((e0_ l0 l2 x13_1 x14_2).f3))).setCell ⟨gb290, 4, none⟩ (.int .i64 ((e0_ l0 l2 x13_1 x14_2).f4))).setCell ⟨gb290, 5, none⟩ (.int .i64 ((e0_ l0 l2 x13_1 x14_2).f5))).setCell ⟨gb290, 6, none⟩ (.int .i64 ((e0_ l0 l2 x13_1 x14_2).f6))).setCell ⟨gb290, 7, none⟩ (.bool ((e0_ l0 l2 x13_1 x14_2).f7))) = w102 at n0_ n1_ n2_ n3_ ⊢
                               revert n0_ n1_ n2_ n3_
                               intro HO_9 BK277 BK290 HB
                               have n0_ := am (Kd.R_drew HO_9.out)
                               have n1_ := am (blk_drew BK277.out)
                               have n2_ := am (blk_drew BK290.out)
                               have n3_ := am (below_drew1 HB.out)
                               revert n0_ n1_ n2_ n3_
                               clear HO_9 BK277 BK290 HB
                               intro HO_9 BK277 BK290 HB
                               have p292 : 0 ≤ (x12_2 : Int) := ud
                               have q292 : x12_2 < (t269.length : Int) := ud
                               obtain ⟨ad292, e292, hx292_0, hx292_1, hx292_2, hx292_3⟩ := at_T28 (Kd.R_reads' HO_9.out).2.2 x12_2 p292 q292
                               obtain rfl : ad291 = ad292 := (by injection e292)
                               replace p292 := eq_true p292
                               replace q292 := eq_true q292
                               have p293 : 0 ≤ (x12_2 : Int) := ud
                               have q293 : x12_2 < (t269.length : Int) := ud
                               obtain ⟨ad293, e293, hx293_0, hx293_1, hx293_2, hx293_3⟩ := at_T28 (Kd.R_reads' HO_9.out).2.2 x12_2 p293 q293
                               obtain rfl : ad291 = ad293 := (by injection e293)
                               replace p293 := eq_true p293
                               replace q293 := eq_true q293
                               refine start_ (n := 34) (S := fun w' => w'.cell? (ad291.add ((x12_2).toNat * 4)) = some (.int .i64 ((rd_T28 t269 x12_2).f0)) ∧ w'.cell? ⟨(ad291.add ((x12_2).toNat * 4)).block, (ad291.add ((x12_2).toNat * 4)).off + 1, none⟩ = some (.int .i64 ((rd_T28 t269 x12_2).f1)) ∧ w'.cell? ⟨(ad291.add ((x12_2).toNat * 4)).block, (ad291.add ((x12_2).toNat * 4)).off + 2, none⟩ = some (.int .i64 ((rd_T28 t269 x12_2).f2)) ∧ w'.cell? ⟨(ad291.add ((x12_2).toNat * 4)).block, (ad291.add ((x12_2).toNat * 4)).off + 3, none⟩ = some (.int .i64 ((rd_T28 t269 x12_2).f3)) ∧ w'.cell? (ad291.add ((x12_2).toNat * 4)) = some (.int .i64 ((rd_T28 t269 x12_2).f0)) ∧ w'.cell? ⟨(ad291.add ((x12_2).toNat * 4)).block, (ad291.add ((x12_2).toNat * 4)).off + 1, none⟩ = some (.int .i64 ((rd_T28 t269 x12_2).f1)) ∧ w'.cell? ⟨(ad291.add ((x12_2).toNat * 4)).block, (ad291.add ((x12_2).toNat * 4)).off + 2, none⟩ = some (.int .i64 ((rd_T28 t269 x12_2).f2)) ∧ w'.cell? ⟨(ad291.add ((x12_2).toNat * 4)).block, (ad291.add ((x12_2).toNat * 4)).off + 3, none⟩ = some (.int .i64 ((rd_T28 t269 x12_2).f3))) (ds := []) #[false, false, false, false, false, false, false, false, false, false, false, false, false, false, false, false, false, false, false, false, false, false, false, false, false, false, false, false, false, false, false, false, false, false] (by kernel_rfl) rfl rfl ⟨hx292_0, hx292_1, hx292_2, hx292_3, hx293_0, hx293_1, hx293_2, hx293_3⟩ (fun hHeld => ?_); refine with_tabW curtilagelaw15_PlanWhole.tab23 curtilagelaw15_PlanWhole.bits23 (fun HT_ HW_ => ?_)
                               generalize w102.drew = w103 at HO_9 BK277 BK290 HB hx292_0 hx292_1 hx292_2 hx292_3 hx293_0 hx293_1 hx293_2 hx293_3 hHeld ⊢
                               refine pu 0 147 (bA 34 1) HT_ ?_ ?_ ?_ ?_ ?_; rotate_left; (intro w'; go_simp; with_reducible rfl); rotate_left; (simp only [Act.put, s1, s2, s3, i64_w, i32_w]; rfl)
                               refine pu 1 148 (bA 34 3) HT_ ?_ ?_ ?_ ?_ ?_; rotate_left; (intro w'; go_simp; with_reducible rfl); rotate_left; (simp only [Act.put, s1, s2, s3, i64_w, i32_w]; rfl)
                               refine pu 2 149 (bA 34 7) HT_ ?_ ?_ ?_ ?_ ?_; rotate_left; (intro w'; go_simp; with_reducible rfl); rotate_left; (simp only [Act.put, s1, s2, s3, i64_w, i32_w]; rfl)
                               refine pu 3 150 (bA 34 15) HT_ ?_ ?_ ?_ ?_ ?_; rotate_left; (intro w'; go_simp; with_reducible rfl); rotate_left; (simp only [Act.put, s1, s2, s3, i64_w, i32_w]; rfl)
                               refine pu 5 152 (bA 34 47) HT_ ?_ ?_ ?_ ?_ ?_; rotate_left; (intro w'; go_simp; with_reducible rfl); rotate_left; (simp only [Act.put, s1, s2, s3, i64_w, i32_w]; rfl)
                               refine pu 6 153 (bA 34 111) HT_ ?_ ?_ ?_ ?_ ?_; rotate_left; (intro w'; go_simp; with_reducible rfl); rotate_left; (simp only [Act.put, s1, s2, s3, i64_w, i32_w]; rfl)
                               refine ta 4 151 (bA 34 127) HT_ HW_ ?_ ?_ hHeld ?_ ?_ ?_; rotate_left; (rintro w' ⟨s0, s1, s2, s3, s4, s5, s6, s7⟩; go_simp; with_reducible rfl); rotate_left; (simp only [Act.put, s1, s2, s3, i64_w, i32_w]; rfl)
                               refine pu 7 154 (bA 34 255) HT_ ?_ ?_ ?_ ?_ ?_; rotate_left; (intro w'; go_simp; with_reducible rfl); rotate_left; (simp only [Act.put, s1, s2, s3, i64_w, i32_w]; rfl)
                               refine pu 8 155 (bA 34 511) HT_ ?_ ?_ ?_ ?_ ?_; rotate_left; (intro w'; go_simp; with_reducible rfl); rotate_left; (simp only [Act.put, s1, s2, s3, i64_w, i32_w]; rfl)
                               refine pu 9 156 (bA 34 1023) HT_ ?_ ?_ ?_ ?_ ?_; rotate_left; (intro w'; go_simp; with_reducible rfl); rotate_left; (simp only [Act.put, s1, s2, s3, i64_w, i32_w]; rfl)
                               refine pu 10 157 (bA 34 2047) HT_ ?_ ?_ ?_ ?_ ?_; rotate_left; (intro w'; go_simp; with_reducible rfl); rotate_left; (simp only [Act.put, s1, s2, s3, i64_w, i32_w]; rfl)
                               refine pu 11 158 (bA 34 4095) HT_ ?_ ?_ ?_ ?_ ?_; rotate_left; (intro w'; go_simp; with_reducible rfl); rotate_left; (simp only [Act.put, s1, s2, s3, i64_w, i32_w]; rfl)
                               refine pu 12 159 (bA 34 8191) HT_ ?_ ?_ ?_ ?_ ?_; rotate_left; (intro w'; go_simp; with_reducible rfl); rotate_left; (simp only [Act.put, s1, s2, s3, i64_w, i32_w]; rfl)
                               refine ta 13 160 (bA 34 16383) HT_ HW_ ?_ ?_ hHeld ?_ ?_ ?_; rotate_left; (rintro w' ⟨s0, s1, s2, s3, s4, s5, s6, s7⟩; go_simp; with_reducible rfl); rotate_left; (simp only [Act.put, s1, s2, s3, i64_w, i32_w]; rfl)
                               refine pu 14 161 (bA 34 32767) HT_ ?_ ?_ ?_ ?_ ?_; rotate_left; (intro w'; go_simp; with_reducible rfl); rotate_left; (simp only [Act.put, s1, s2, s3, i64_w, i32_w]; rfl)
                               refine pu 15 162 (bA 34 65535) HT_ ?_ ?_ ?_ ?_ ?_; rotate_left; (intro w'; go_simp; with_reducible rfl); rotate_left; (simp only [Act.put, s1, s2, s3, i64_w, i32_w]; rfl)
                               refine pu 16 163 (bA 34 131071) HT_ ?_ ?_ ?_ ?_ ?_; rotate_left; (intro w'; go_simp; with_reducible rfl); rotate_left; (simp only [Act.put, s1, s2, s3, i64_w, i32_w]; rfl)
                               refine pn 17 164 (bA 34 262143) HT_ ?_ ?_ ?_; rotate_left; (simp only [Act.put, s1, s2, s3, i64_w, i32_w]; rfl)
                               refine pn 18 165 (bA 34 524287) HT_ ?_ ?_ ?_; rotate_left; (simp only [Act.put, s1, s2, s3, i64_w, i32_w]; rfl)
                               refine pn 19 166 (bA 34 1048575) HT_ ?_ ?_ ?_; rotate_left; (simp only [Act.put, s1, s2, s3, i64_w, i32_w]; rfl)
                               refine pn 20 167 (bA 34 2097151) HT_ ?_ ?_ ?_; rotate_left; (simp only [Act.put, s1, s2, s3, i64_w, i32_w]; rfl)
                               refine pn 21 168 (bA 34 4194303) HT_ ?_ ?_ ?_; rotate_left; (simp only [Act.put, s1, s2, s3, i64_w, i32_w]; rfl)
                               refine pn 22 169 (bA 34 8388607) HT_ ?_ ?_ ?_; rotate_left; (simp only [Act.put, s1, s2, s3, i64_w, i32_w]; rfl)
                               refine pn 23 170 (bA 34 16777215) HT_ ?_ ?_ ?_; rotate_left; (simp only [Act.put, s1, s2, s3, i64_w, i32_w]; rfl)
                               refine pn 24 171 (bA 34 33554431) HT_ ?_ ?_ ?_; rotate_left; (simp only [Act.put, s1, s2, s3, i64_w, i32_w]; rfl)
                               refine pn 25 172 (bA 34 67108863) HT_ ?_ ?_ ?_; rotate_left; (simp only [Act.put, s1, s2, s3, i64_w, i32_w]; rfl)
                               refine pn 26 173 (bA 34 134217727) HT_ ?_ ?_ ?_; rotate_left; (simp only [Act.put, s1, s2, s3, i64_w, i32_w]; rfl)
                               refine pn 27 174 (bA 34 268435455) HT_ ?_ ?_ ?_; rotate_left; (simp only [Act.put, s1, s2, s3, i64_w, i32_w]; rfl)
                               refine pn 28 175 (bA 34 536870911) HT_ ?_ ?_ ?_; rotate_left; (simp only [Act.put, s1, s2, s3, i64_w, i32_w]; rfl)
                               refine pn 29 176 (bA 34 1073741823) HT_ ?_ ?_ ?_; rotate_left; (simp only [Act.put, s1, s2, s3, i64_w, i32_w]; rfl)
                               refine pn 30 177 (bA 34 2147483647) HT_ ?_ ?_ ?_; rotate_left; (simp only [Act.put, s1, s2, s3, i64_w, i32_w]; rfl)
                               refine pn 31 178 (bA 34 4294967295) HT_ ?_ ?_ ?_; rotate_left; (simp only [Act.put, s1, s2, s3, i64_w, i32_w]; rfl)
                               refine pn 32 179 (bA 34 8589934591) HT_ ?_ ?_ ?_; rotate_left; (simp only [Act.put, s1, s2, s3, i64_w, i32_w]; rfl)
                               refine pu 33 180 (bA 34 17179869183) HT_ ?_ ?_ ?_ ?_ ?_; rotate_left; (intro w'; go_simp; with_reducible rfl); rotate_left; (simp only [Act.put, s1, s2, s3, i64_w, i32_w]; rfl)
                               refine done_ (done_of HT_.out (by kernel_rfl)) ?_
                               try go_wp2
                               go_meet
                               case rel => exact ⟨_, (true), uf, (by first | exact H' | (rw [← Nbq44.out]; exact H')), ⟨by have := HK1.out; have := HK2.out; have := HJ20.out; first | omega | exact Nat.le_refl _⟩, ⟨by (with_reducible repeat (first | apply Kd.R_alloc | apply Kd.R_drewN | apply Kd.R_drew)); exact HO_9.out⟩, ⟨by (with_reducible repeat (first | refine blk_drewN ?_ _ | refine blk_drew ?_ | refine blk_alloc ?_ _)); first | exact BK277.out | (rw [← Nbq44.out]; exact BK277.out)⟩, ⟨by (with_reducible repeat (first | refine blk_drewN ?_ _ | refine blk_drew ?_ | refine blk_alloc ?_ _)); first | exact BK290.out | (rw [← Nbq44.out]; exact BK290.out)⟩, ⟨by repeat (first | (with_reducible first | exact HB.out | apply below_alloc | apply pw_below_drewN | apply below_drew1 | refine below_set ?_ GE277.out | refine below_set ?_ GE290.out) | exact HB.out)⟩⟩
                              ·rw [if_neg c101] at H
                               have c101b0 : decide (((rd_T28 t269 x12_2).f3) < 0) = false := decide_eq_false c101
                               clear c101
                               by_cases c104 : 0 ≤ ((rd_T28 t269 x12_2).f2)
                               ·rw [if_pos c104] at H
                                have c104b0 : decide (0 ≤ ((rd_T28 t269 x12_2).f2)) = true := decide_eq_true c104
                                clear c104
                                by_cases c105 : ((rd_T28 t269 x12_2).f2) < (l0.length : Int)
                                ·rw [if_pos c105] at H
                                 have c105b0 : decide (((rd_T28 t269 x12_2).f2) < (l0.length : Int)) = true := decide_eq_true c105
                                 clear c105
                                 have H' := am H
                                 clear H
                                 try go_wp2
                                 have n0_ : Aside0 (Kd.R k28 28 ((((((((w88.setCell ⟨gb290, 0, none⟩ (.string ((e0_ l0 l2 x13_1 x14_2).f0))).setCell ⟨gb290, 1, none⟩ (.string ((e0_ l0 l2 x13_1 x14_2).f1))).setCell ⟨gb290, 2, none⟩ (.int .u64 ((e0_ l0 l2 x13_1 x14_2).f2))).setCell ⟨gb290, 3, none⟩ (.int .u64 ((e0_ l0 l2 x13_1 x14_2).f3))).setCell ⟨gb290, 4, none⟩ (.int .i64 ((e0_ l0 l2 x13_1 x14_2).f4))).setCell ⟨gb290, 5, none⟩ (.int .i64 ((e0_ l0 l2 x13_1 x14_2).f5))).setCell ⟨gb290, 6, none⟩ (.int .i64 ((e0_ l0 l2 x13_1 x14_2).f6))).setCell ⟨gb290, 7, none⟩ (.bool ((e0_ l0 l2 x13_1 x14_2).f7))) w.heap.size (fun k_ => k_ ≠ gb277) (.slice (some ad291) t269.length co97) t269) := ⟨by (with_reducible repeat (first | apply Kd.R_alloc | apply Kd.R_drewN | apply Kd.R_drew)); exact Kd.R_mono (Kd.R_far (p := ⟨gb290, 7, none⟩) (Kd.R_far (p := ⟨gb290, 6, none⟩) (Kd.R_far (p := ⟨gb290, 5, none⟩) (Kd.R_far (p := ⟨gb290, 4, none⟩) (Kd.R_far (p := ⟨gb290, 3, none⟩) (Kd.R_far (p := ⟨gb290, 2, none⟩) (Kd.R_far (p := ⟨gb290, 1, none⟩) (Kd.R_far (p := ⟨gb290, 0, none⟩) (Kd.R_types HO_9.out BK290.out (by decide)) (fun _ hk => hk.2) (.string ((e0_ l0 l2 x13_1 x14_2).f0))) (fun _ hk => hk.2) (.string ((e0_ l0 l2 x13_1 x14_2).f1))) (fun _ hk => hk.2) (.int .u64 ((e0_ l0 l2 x13_1 x14_2).f2))) (fun _ hk => hk.2) (.int .u64 ((e0_ l0 l2 x13_1 x14_2).f3))) (fun _ hk => hk.2) (.int .i64 ((e0_ l0 l2 x13_1 x14_2).f4))) (fun _ hk => hk.2) (.int .i64 ((e0_ l0 l2 x13_1 x14_2).f5))) (fun _ hk => hk.2) (.int .i64 ((e0_ l0 l2 x13_1 x14_2).f6))) (fun _ hk => hk.2) (.bool ((e0_ l0 l2 x13_1 x14_2).f7))) (fun _ hk => hk.1)⟩
                                 have n1_ : Aside0 (((((((((w88.setCell ⟨gb290, 0, none⟩ (.string ((e0_ l0 l2 x13_1 x14_2).f0))).setCell ⟨gb290, 1, none⟩ (.string ((e0_ l0 l2 x13_1 x14_2).f1))).setCell ⟨gb290, 2, none⟩ (.int .u64 ((e0_ l0 l2 x13_1 x14_2).f2))).setCell ⟨gb290, 3, none⟩ (.int .u64 ((e0_ l0 l2 x13_1 x14_2).f3))).setCell ⟨gb290, 4, none⟩ (.int .i64 ((e0_ l0 l2 x13_1 x14_2).f4))).setCell ⟨gb290, 5, none⟩ (.int .i64 ((e0_ l0 l2 x13_1 x14_2).f5))).setCell ⟨gb290, 6, none⟩ (.int .i64 ((e0_ l0 l2 x13_1 x14_2).f6))).setCell ⟨gb290, 7, none⟩ (.bool ((e0_ l0 l2 x13_1 x14_2).f7))).heap[gb277]? = some (.cells #[.int .i64 t272, .int .i64 t273, .int .i64 t274, .int .i64 t275] 28 (0, 0))) := ⟨by (iterate 8 ((with_reducible repeat (first | refine blk_drewN ?_ _ | refine blk_drew ?_ | refine blk_alloc ?_ _)); refine blk_far ?_ NB277_290.out _)); (with_reducible repeat (first | refine blk_drewN ?_ _ | refine blk_drew ?_ | refine blk_alloc ?_ _)); exact BK277.out⟩
                                 have n2_ : Aside0 (((((((((w88.setCell ⟨gb290, 0, none⟩ (.string ((e0_ l0 l2 x13_1 x14_2).f0))).setCell ⟨gb290, 1, none⟩ (.string ((e0_ l0 l2 x13_1 x14_2).f1))).setCell ⟨gb290, 2, none⟩ (.int .u64 ((e0_ l0 l2 x13_1 x14_2).f2))).setCell ⟨gb290, 3, none⟩ (.int .u64 ((e0_ l0 l2 x13_1 x14_2).f3))).setCell ⟨gb290, 4, none⟩ (.int .i64 ((e0_ l0 l2 x13_1 x14_2).f4))).setCell ⟨gb290, 5, none⟩ (.int .i64 ((e0_ l0 l2 x13_1 x14_2).f5))).setCell ⟨gb290, 6, none⟩ (.int .i64 ((e0_ l0 l2 x13_1 x14_2).f6))).setCell ⟨gb290, 7, none⟩ (.bool ((e0_ l0 l2 x13_1 x14_2).f7))).heap[gb290]? = some (.cells #[.string ((e0_ l0 l2 x13_1 x14_2).f0), .string ((e0_ l0 l2 x13_1 x14_2).f1), .int .u64 ((e0_ l0 l2 x13_1 x14_2).f2), .int .u64 ((e0_ l0 l2 x13_1 x14_2).f3), .int .i64 ((e0_ l0 l2 x13_1 x14_2).f4), .int .i64 ((e0_ l0 l2 x13_1 x14_2).f5), .int .i64 ((e0_ l0 l2 x13_1 x14_2).f6), .bool ((e0_ l0 l2 x13_1 x14_2).f7)] 42 (0, 0))) := ⟨by (with_reducible repeat (first | refine blk_drewN ?_ _ | refine blk_drew ?_ | refine blk_alloc ?_ _)); refine blk_put (cs := #[.string ((e0_ l0 l2 x13_1 x14_2).f0), .string ((e0_ l0 l2 x13_1 x14_2).f1), .int .u64 ((e0_ l0 l2 x13_1 x14_2).f2), .int .u64 ((e0_ l0 l2 x13_1 x14_2).f3), .int .i64 ((e0_ l0 l2 x13_1 x14_2).f4), .int .i64 ((e0_ l0 l2 x13_1 x14_2).f5), .int .i64 ((e0_ l0 l2 x13_1 x14_2).f6), .bool false]) ?_ 7 _ rfl; (with_reducible repeat (first | refine blk_drewN ?_ _ | refine blk_drew ?_ | refine blk_alloc ?_ _)); refine blk_put (cs := #[.string ((e0_ l0 l2 x13_1 x14_2).f0), .string ((e0_ l0 l2 x13_1 x14_2).f1), .int .u64 ((e0_ l0 l2 x13_1 x14_2).f2), .int .u64 ((e0_ l0 l2 x13_1 x14_2).f3), .int .i64 ((e0_ l0 l2 x13_1 x14_2).f4), .int .i64 ((e0_ l0 l2 x13_1 x14_2).f5), .int .i64 0, .bool false]) ?_ 6 _ rfl; (with_reducible repeat (first | refine blk_drewN ?_ _ | refine blk_drew ?_ | refine blk_alloc ?_ _)); refine blk_put (cs := #[.string ((e0_ l0 l2 x13_1 x14_2).f0), .string ((e0_ l0 l2 x13_1 x14_2).f1), .int .u64 ((e0_ l0 l2 x13_1 x14_2).f2), .int .u64 ((e0_ l0 l2 x13_1 x14_2).f3), .int .i64 ((e0_ l0 l2 x13_1 x14_2).f4), .int .i64 0, .int .i64 0, .bool false]) ?_ 5 _ rfl; (with_reducible repeat (first | refine blk_drewN ?_ _ | refine blk_drew ?_ | refine blk_alloc ?_ _)); refine blk_put (cs := #[.string ((e0_ l0 l2 x13_1 x14_2).f0), .string ((e0_ l0 l2 x13_1 x14_2).f1), .int .u64 ((e0_ l0 l2 x13_1 x14_2).f2), .int .u64 ((e0_ l0 l2 x13_1 x14_2).f3), .int .i64 0, .int .i64 0, .int .i64 0, .bool false]) ?_ 4 _ rfl; (with_reducible repeat (first | refine blk_drewN ?_ _ | refine blk_drew ?_ | refine blk_alloc ?_ _)); refine blk_put (cs := #[.string ((e0_ l0 l2 x13_1 x14_2).f0), .string ((e0_ l0 l2 x13_1 x14_2).f1), .int .u64 ((e0_ l0 l2 x13_1 x14_2).f2), .int .u64 0, .int .i64 0, .int .i64 0, .int .i64 0, .bool false]) ?_ 3 _ rfl; (with_reducible repeat (first | refine blk_drewN ?_ _ | refine blk_drew ?_ | refine blk_alloc ?_ _)); refine blk_put (cs := #[.string ((e0_ l0 l2 x13_1 x14_2).f0), .string ((e0_ l0 l2 x13_1 x14_2).f1), .int .u64 0, .int .u64 0, .int .i64 0, .int .i64 0, .int .i64 0, .bool false]) ?_ 2 _ rfl; (with_reducible repeat (first | refine blk_drewN ?_ _ | refine blk_drew ?_ | refine blk_alloc ?_ _)); refine blk_put (cs := #[.string ((e0_ l0 l2 x13_1 x14_2).f0), .string (⟨#[]⟩ : ByteArray), .int .u64 0, .int .u64 0, .int .i64 0, .int .i64 0, .int .i64 0, .bool false]) ?_ 1 _ rfl; (with_reducible repeat (first | refine blk_drewN ?_ _ | refine blk_drew ?_ | refine blk_alloc ?_ _)); refine blk_put (cs := #[.string (⟨#[]⟩ : ByteArray), .string (⟨#[]⟩ : ByteArray), .int .u64 0, .int .u64 0, .int .i64 0, .int .i64 0, .int .i64 0, .bool false]) ?_ 0 _ rfl; (with_reducible repeat (first | refine blk_drewN ?_ _ | refine blk_drew ?_ | refine blk_alloc ?_ _)); exact BK290.out⟩
                                 have n3_ : Aside0 (Below w.heap.size w ((((((((w88.setCell ⟨gb290, 0, none⟩ (.string ((e0_ l0 l2 x13_1 x14_2).f0))).setCell ⟨gb290, 1, none⟩ (.string ((e0_ l0 l2 x13_1 x14_2).f1))).setCell ⟨gb290, 2, none⟩ (.int .u64 ((e0_ l0 l2 x13_1 x14_2).f2))).setCell ⟨gb290, 3, none⟩ (.int .u64 ((e0_ l0 l2 x13_1 x14_2).f3))).setCell ⟨gb290, 4, none⟩ (.int .i64 ((e0_ l0 l2 x13_1 x14_2).f4))).setCell ⟨gb290, 5, none⟩ (.int .i64 ((e0_ l0 l2 x13_1 x14_2).f5))).setCell ⟨gb290, 6, none⟩ (.int .i64 ((e0_ l0 l2 x13_1 x14_2).f6))).setCell ⟨gb290, 7, none⟩ (.bool ((e0_ l0 l2 x13_1 x14_2).f7)))) := ⟨by repeat (first | (with_reducible first | exact HB.out | apply below_alloc | apply pw_below_drewN | apply below_drew1 | refine below_set ?_ GE277.out | refine below_set ?_ GE290.out) | exact HB.out)⟩
                                 (try clear HO_9)
                                 (try clear BK277)
                                 (try clear BK290)
                                 (try clear HB)
                                 generalize ((((((((w88.setCell ⟨gb290, 0, none⟩ (.string ((e0_ l0 l2 x13_1 x14_2).f0))).setCell ⟨gb290, 1, none⟩ (.string ((e0_ l0 l2 x13_1 x14_2).f1))).setCell ⟨gb290, 2, none⟩ (.int .u64 ((e0_ l0 l2 x13_1 x14_2).f2))).setCell ⟨gb290, 3, none⟩ (.int .u64 ((e0_ l0 l2 x13_1 x14_2).f3))).setCell ⟨gb290, 4, none⟩ (.int .i64 ((e0_ l0 l2 x13_1 x14_2).f4))).setCell ⟨gb290, 5, none⟩ (.int .i64 ((e0_ l0 l2 x13_1 x14_2).f5))).setCell ⟨gb290, 6, none⟩ (.int .i64 ((e0_ l0 l2 x13_1 x14_2).f6))).setCell ⟨gb290, 7, none⟩ (.bool ((e0_ l0 l2 x13_1 x14_2).f7))) = w106 at n0_ n1_ n2_ n3_ ⊢
                                 revert n0_ n1_ n2_ n3_
                                 intro HO_9 BK277 BK290 HB
                                 have n0_ := am (Kd.R_drew HO_9.out)
                                 have n1_ := am (blk_drew BK277.out)
                                 have n2_ := am (blk_drew BK290.out)
                                 have n3_ := am (below_drew1 HB.out)
                                 revert n0_ n1_ n2_ n3_
                                 clear HO_9 BK277 BK290 HB
                                 intro HO_9 BK277 BK290 HB
                                 have p292 : 0 ≤ (x12_2 : Int) := ud
                                 have q292 : x12_2 < (t269.length : Int) := ud
                                 obtain ⟨ad292, e292, hx292_0, hx292_1, hx292_2, hx292_3⟩ := at_T28 (Kd.R_reads' HO_9.out).2.2 x12_2 p292 q292
                                 obtain rfl : ad291 = ad292 := (by injection e292)
                                 replace p292 := eq_true p292
                                 replace q292 := eq_true q292
                                 have p293 : 0 ≤ (x12_2 : Int) := ud
                                 have q293 : x12_2 < (t269.length : Int) := ud
                                 obtain ⟨ad293, e293, hx293_0, hx293_1, hx293_2, hx293_3⟩ := at_T28 (Kd.R_reads' HO_9.out).2.2 x12_2 p293 q293
                                 obtain rfl : ad291 = ad293 := (by injection e293)
                                 replace p293 := eq_true p293
                                 replace q293 := eq_true q293
                                 have p294 : 0 ≤ (x12_2 : Int) := ud
                                 have q294 : x12_2 < (t269.length : Int) := ud
                                 obtain ⟨ad294, e294, hx294_0, hx294_1, hx294_2, hx294_3⟩ := at_T28 (Kd.R_reads' HO_9.out).2.2 x12_2 p294 q294
                                 obtain rfl : ad291 = ad294 := (by injection e294)
                                 replace p294 := eq_true p294
                                 replace q294 := eq_true q294
                                 have p295 : 0 ≤ (x12_2 : Int) := ud
                                 have q295 : x12_2 < (t269.length : Int) := ud
                                 obtain ⟨ad295, e295, hx295_0, hx295_1, hx295_2, hx295_3⟩ := at_T28 (Kd.R_reads' HO_9.out).2.2 x12_2 p295 q295
                                 obtain rfl : ad291 = ad295 := (by injection e295)
                                 replace p295 := eq_true p295
                                 replace q295 := eq_true q295
                                 have p296 : 0 ≤ (((rd_T28 t269 x12_2).f2) : Int) := ud
                                 have q296 : ((rd_T28 t269 x12_2).f2) < (l0.length : Int) := ud
                                 obtain ⟨ad296, A296_1, c296_1, A296_2, c296_2, A296_3, c296_3, A296_4, c296_4, A296_5, c296_5, A296_6, c296_6, e296, hx296_0, hx296_1, hx296_2, hx296_3, hx296_4, hx296_5, hx296_6, hl296_1, hi296_1, hl296_2, hi296_2, hl296_3, hi296_3, hl296_4, hi296_4, hl296_5, hi296_5, hl296_6, hi296_6⟩ := at_T39 HR0.out ((rd_T28 t269 x12_2).f2) p296 q296
                                 have hw296_6 := hx296_6
                                 have hw296_5 := hx296_5
                                 have hw296_4 := hx296_4
                                 have hw296_3 := hx296_3
                                 have hw296_2 := hx296_2
                                 have hw296_1 := hx296_1
                                 have hw296_0 := hx296_0
                                 obtain rfl : ad280 = ad296 := (by injection e296)
                                 replace hx296_0 := bcel HB hx296_0
                                 replace hx296_1 := bcel HB hx296_1
                                 replace hx296_2 := bcel HB hx296_2
                                 replace hx296_3 := bcel HB hx296_3
                                 replace hx296_4 := bcel HB hx296_4
                                 replace hx296_5 := bcel HB hx296_5
                                 replace hx296_6 := bcel HB hx296_6
                                 have HR296_1 := am hi296_1
                                 have HC296_1 := am hl296_1
                                 clear hi296_1 hl296_1
                                 have HR296_2 := am hi296_2
                                 have HC296_2 := am hl296_2
                                 clear hi296_2 hl296_2
                                 have HR296_3 := am hi296_3
                                 have HC296_3 := am hl296_3
                                 clear hi296_3 hl296_3
                                 have HR296_4 := am hi296_4
                                 have HC296_4 := am hl296_4
                                 clear hi296_4 hl296_4
                                 have HR296_5 := am hi296_5
                                 have HC296_5 := am hl296_5
                                 clear hi296_5 hl296_5
                                 have HR296_6 := am hi296_6
                                 have HC296_6 := am hl296_6
                                 clear hi296_6 hl296_6
                                 replace p296 := eq_true p296
                                 replace q296 := eq_true q296
                                 refine start_ (n := 34) (S := fun w' => w'.cell? (ad291.add ((x12_2).toNat * 4)) = some (.int .i64 ((rd_T28 t269 x12_2).f0)) ∧ w'.cell? ⟨(ad291.add ((x12_2).toNat * 4)).block, (ad291.add ((x12_2).toNat * 4)).off + 1, none⟩ = some (.int .i64 ((rd_T28 t269 x12_2).f1)) ∧ w'.cell? ⟨(ad291.add ((x12_2).toNat * 4)).block, (ad291.add ((x12_2).toNat * 4)).off + 2, none⟩ = some (.int .i64 ((rd_T28 t269 x12_2).f2)) ∧ w'.cell? ⟨(ad291.add ((x12_2).toNat * 4)).block, (ad291.add ((x12_2).toNat * 4)).off + 3, none⟩ = some (.int .i64 ((rd_T28 t269 x12_2).f3)) ∧ w'.cell? (ad291.add ((x12_2).toNat * 4)) = some (.int .i64 ((rd_T28 t269 x12_2).f0)) ∧ w'.cell? ⟨(ad291.add ((x12_2).toNat * 4)).block, (ad291.add ((x12_2).toNat * 4)).off + 1, none⟩ = some (.int .i64 ((rd_T28 t269 x12_2).f1)) ∧ w'.cell? ⟨(ad291.add ((x12_2).toNat * 4)).block, (ad291.add ((x12_2).toNat * 4)).off + 2, none⟩ = some (.int .i64 ((rd_T28 t269 x12_2).f2)) ∧ w'.cell? ⟨(ad291.add ((x12_2).toNat * 4)).block, (ad291.add ((x12_2).toNat * 4)).off + 3, none⟩ = some (.int .i64 ((rd_T28 t269 x12_2).f3)) ∧ w'.cell? (ad291.add ((x12_2).toNat * 4)) = some (.int .i64 ((rd_T28 t269 x12_2).f0)) ∧ w'.cell? ⟨(ad291.add ((x12_2).toNat * 4)).block, (ad291.add ((x12_2).toNat * 4)).off + 1, none⟩ = some (.int .i64 ((rd_T28 t269 x12_2).f1)) ∧ w'.cell? ⟨(ad291.add ((x12_2).toNat * 4)).block, (ad291.add ((x12_2).toNat * 4)).off + 2, none⟩ = some (.int .i64 ((rd_T28 t269 x12_2).f2)) ∧ w'.cell? ⟨(ad291.add ((x12_2).toNat * 4)).block, (ad291.add ((x12_2).toNat * 4)).off + 3, none⟩ = some (.int .i64 ((rd_T28 t269 x12_2).f3)) ∧ w'.cell? (ad291.add ((x12_2).toNat * 4)) = some (.int .i64 ((rd_T28 t269 x12_2).f0)) ∧ w'.cell? ⟨(ad291.add ((x12_2).toNat * 4)).block, (ad291.add ((x12_2).toNat * 4)).off + 1, none⟩ = some (.int .i64 ((rd_T28 t269 x12_2).f1)) ∧ w'.cell? ⟨(ad291.add ((x12_2).toNat * 4)).block, (ad291.add ((x12_2).toNat * 4)).off + 2, none⟩ = some (.int .i64 ((rd_T28 t269 x12_2).f2)) ∧ w'.cell? ⟨(ad291.add ((x12_2).toNat * 4)).block, (ad291.add ((x12_2).toNat * 4)).off + 3, none⟩ = some (.int .i64 ((rd_T28 t269 x12_2).f3)) ∧ w'.cell? (ad280.add ((((rd_T28 t269 x12_2).f2)).toNat * 7)) = some (.string ((rd_T39 l0 ((rd_T28 t269 x12_2).f2)).f0)) ∧ w'.cell? ⟨(ad280.add ((((rd_T28 t269 x12_2).f2)).toNat * 7)).block, (ad280.add ((((rd_T28 t269 x12_2).f2)).toNat * 7)).off + 1, none⟩ = some (.slice A296_1 ((rd_T39 l0 ((rd_T28 t269 x12_2).f2)).f1).length c296_1) ∧ w'.cell? ⟨(ad280.add ((((rd_T28 t269 x12_2).f2)).toNat * 7)).block, (ad280.add ((((rd_T28 t269 x12_2).f2)).toNat * 7)).off + 2, none⟩ = some (.slice A296_2 ((rd_T39 l0 ((rd_T28 t269 x12_2).f2)).f2).length c296_2) ∧ w'.cell? ⟨(ad280.add ((((rd_T28 t269 x12_2).f2)).toNat * 7)).block, (ad280.add ((((rd_T28 t269 x12_2).f2)).toNat * 7)).off + 3, none⟩ = some (.slice A296_3 ((rd_T39 l0 ((rd_T28 t269 x12_2).f2)).f3).length c296_3) ∧ w'.cell? ⟨(ad280.add ((((rd_T28 t269 x12_2).f2)).toNat * 7)).block, (ad280.add ((((rd_T28 t269 x12_2).f2)).toNat * 7)).off + 4, none⟩ = some (.slice A296_4 ((rd_T39 l0 ((rd_T28 t269 x12_2).f2)).f4).length c296_4) ∧ w'.cell? ⟨(ad280.add ((((rd_T28 t269 x12_2).f2)).toNat * 7)).block, (ad280.add ((((rd_T28 t269 x12_2).f2)).toNat * 7)).off + 5, none⟩ = some (.slice A296_5 ((rd_T39 l0 ((rd_T28 t269 x12_2).f2)).f5).length c296_5) ∧ w'.cell? ⟨(ad280.add ((((rd_T28 t269 x12_2).f2)).toNat * 7)).block, (ad280.add ((((rd_T28 t269 x12_2).f2)).toNat * 7)).off + 6, none⟩ = some (.slice A296_6 ((rd_T39 l0 ((rd_T28 t269 x12_2).f2)).f6).length c296_6)) (ds := []) #[false, false, false, false, false, false, false, false, false, false, false, false, false, false, false, false, false, false, false, false, false, false, false, false, false, false, false, false, false, false, false, false, false, false] (by kernel_rfl) rfl rfl ⟨hx292_0, hx292_1, hx292_2, hx292_3, hx293_0, hx293_1, hx293_2, hx293_3, hx294_0, hx294_1, hx294_2, hx294_3, hx295_0, hx295_1, hx295_2, hx295_3, (bcel HB hw296_0), (bcel HB hw296_1), (bcel HB hw296_2), (bcel HB hw296_3), (bcel HB hw296_4), (bcel HB hw296_5), (bcel HB hw296_6)⟩ (fun hHeld => ?_); refine with_tabW curtilagelaw15_PlanWhole.tab23 curtilagelaw15_PlanWhole.bits23 (fun HT_ HW_ => ?_)
                                 generalize w106.drew = w107 at HO_9 BK277 BK290 HB HR296_1 HR296_2 HR296_3 HR296_4 HR296_5 HR296_6 hx292_0 hx292_1 hx292_2 hx292_3 hx293_0 hx293_1 hx293_2 hx293_3 hx294_0 hx294_1 hx294_2 hx294_3 hx295_0 hx295_1 hx295_2 hx295_3 hx296_0 hx296_1 hx296_2 hx296_3 hx296_4 hx296_5 hx296_6 hHeld ⊢
                                 refine pu 0 147 (bA 34 1) HT_ ?_ ?_ ?_ ?_ ?_; rotate_left; (intro w'; go_simp; with_reducible rfl); rotate_left; (simp only [Act.put, s1, s2, s3, i64_w, i32_w]; rfl)
                                 refine pu 1 148 (bA 34 3) HT_ ?_ ?_ ?_ ?_ ?_; rotate_left; (intro w'; go_simp; with_reducible rfl); rotate_left; (simp only [Act.put, s1, s2, s3, i64_w, i32_w]; rfl)
                                 refine pu 2 149 (bA 34 7) HT_ ?_ ?_ ?_ ?_ ?_; rotate_left; (intro w'; go_simp; with_reducible rfl); rotate_left; (simp only [Act.put, s1, s2, s3, i64_w, i32_w]; rfl)
                                 refine pu 3 150 (bA 34 15) HT_ ?_ ?_ ?_ ?_ ?_; rotate_left; (intro w'; go_simp; with_reducible rfl); rotate_left; (simp only [Act.put, s1, s2, s3, i64_w, i32_w]; rfl)
                                 refine pu 5 152 (bA 34 47) HT_ ?_ ?_ ?_ ?_ ?_; rotate_left; (intro w'; go_simp; with_reducible rfl); rotate_left; (simp only [Act.put, s1, s2, s3, i64_w, i32_w]; rfl)
                                 refine pu 6 153 (bA 34 111) HT_ ?_ ?_ ?_ ?_ ?_; rotate_left; (intro w'; go_simp; with_reducible rfl); rotate_left; (simp only [Act.put, s1, s2, s3, i64_w, i32_w]; rfl)
                                 refine ta 4 151 (bA 34 127) HT_ HW_ ?_ ?_ hHeld ?_ ?_ ?_; rotate_left; (rintro w' ⟨s0, s1, s2, s3, s4, s5, s6, s7, s8, s9, s10, s11, s12, s13, s14, s15, s16, s17, s18, s19, s20, s21, s22⟩; go_simp; with_reducible rfl); rotate_left; (simp only [Act.put, s1, s2, s3, i64_w, i32_w]; rfl)
                                 refine pu 7 154 (bA 34 255) HT_ ?_ ?_ ?_ ?_ ?_; rotate_left; (intro w'; go_simp; with_reducible rfl); rotate_left; (simp only [Act.put, s1, s2, s3, i64_w, i32_w]; rfl)
                                 refine pu 8 155 (bA 34 511) HT_ ?_ ?_ ?_ ?_ ?_; rotate_left; (intro w'; go_simp; with_reducible rfl); rotate_left; (simp only [Act.put, s1, s2, s3, i64_w, i32_w]; rfl)
                                 refine pu 9 156 (bA 34 1023) HT_ ?_ ?_ ?_ ?_ ?_; rotate_left; (intro w'; go_simp; with_reducible rfl); rotate_left; (simp only [Act.put, s1, s2, s3, i64_w, i32_w]; rfl)
                                 refine pu 10 157 (bA 34 2047) HT_ ?_ ?_ ?_ ?_ ?_; rotate_left; (intro w'; go_simp; with_reducible rfl); rotate_left; (simp only [Act.put, s1, s2, s3, i64_w, i32_w]; rfl)
                                 refine pu 11 158 (bA 34 4095) HT_ ?_ ?_ ?_ ?_ ?_; rotate_left; (intro w'; go_simp; with_reducible rfl); rotate_left; (simp only [Act.put, s1, s2, s3, i64_w, i32_w]; rfl)
                                 refine pu 12 159 (bA 34 8191) HT_ ?_ ?_ ?_ ?_ ?_; rotate_left; (intro w'; go_simp; with_reducible rfl); rotate_left; (simp only [Act.put, s1, s2, s3, i64_w, i32_w]; rfl)
                                 refine ta 13 160 (bA 34 16383) HT_ HW_ ?_ ?_ hHeld ?_ ?_ ?_; rotate_left; (rintro w' ⟨s0, s1, s2, s3, s4, s5, s6, s7, s8, s9, s10, s11, s12, s13, s14, s15, s16, s17, s18, s19, s20, s21, s22⟩; go_simp; with_reducible rfl); rotate_left; (simp only [Act.put, s1, s2, s3, i64_w, i32_w]; rfl)
                                 refine pu 14 161 (bA 34 32767) HT_ ?_ ?_ ?_ ?_ ?_; rotate_left; (intro w'; go_simp; with_reducible rfl); rotate_left; (simp only [Act.put, s1, s2, s3, i64_w, i32_w]; rfl)
                                 refine pu 15 162 (bA 34 65535) HT_ ?_ ?_ ?_ ?_ ?_; rotate_left; (intro w'; go_simp; with_reducible rfl); rotate_left; (simp only [Act.put, s1, s2, s3, i64_w, i32_w]; rfl)
                                 refine pu 16 163 (bA 34 131071) HT_ ?_ ?_ ?_ ?_ ?_; rotate_left; (intro w'; go_simp; with_reducible rfl); rotate_left; (simp only [Act.put, s1, s2, s3, i64_w, i32_w]; rfl)
                                 refine pu 17 164 (bA 34 262143) HT_ ?_ ?_ ?_ ?_ ?_; rotate_left; (intro w'; go_simp; with_reducible rfl); rotate_left; (simp only [Act.put, s1, s2, s3, i64_w, i32_w]; rfl)
                                 refine pu 18 165 (bA 34 524287) HT_ ?_ ?_ ?_ ?_ ?_; rotate_left; (intro w'; go_simp; with_reducible rfl); rotate_left; (simp only [Act.put, s1, s2, s3, i64_w, i32_w]; rfl)
                                 refine pu 19 166 (bA 34 1048575) HT_ ?_ ?_ ?_ ?_ ?_; rotate_left; (intro w'; go_simp; with_reducible rfl); rotate_left; (simp only [Act.put, s1, s2, s3, i64_w, i32_w]; rfl)
                                 refine pu 20 167 (bA 34 2097151) HT_ ?_ ?_ ?_ ?_ ?_; rotate_left; (intro w'; go_simp; with_reducible rfl); rotate_left; (simp only [Act.put, s1, s2, s3, i64_w, i32_w]; rfl)
                                 refine pu 22 169 (bA 34 6291455) HT_ ?_ ?_ ?_ ?_ ?_; rotate_left; (intro w'; go_simp; with_reducible rfl); rotate_left; (simp only [Act.put, s1, s2, s3, i64_w, i32_w]; rfl)
                                 refine pu 23 170 (bA 34 14680063) HT_ ?_ ?_ ?_ ?_ ?_; rotate_left; (intro w'; go_simp; with_reducible rfl); rotate_left; (simp only [Act.put, s1, s2, s3, i64_w, i32_w]; rfl)
                                 refine pu 24 171 (bA 34 31457279) HT_ ?_ ?_ ?_ ?_ ?_; rotate_left; (intro w'; go_simp; with_reducible rfl); rotate_left; (simp only [Act.put, s1, s2, s3, i64_w, i32_w]; rfl)
                                 refine pu 25 172 (bA 34 65011711) HT_ ?_ ?_ ?_ ?_ ?_; rotate_left; (intro w'; go_simp; with_reducible rfl); rotate_left; (simp only [Act.put, s1, s2, s3, i64_w, i32_w]; rfl)
                                 refine pu 26 173 (bA 34 132120575) HT_ ?_ ?_ ?_ ?_ ?_; rotate_left; (intro w'; go_simp; with_reducible rfl); rotate_left; (simp only [Act.put, s1, s2, s3, i64_w, i32_w]; rfl)
                                 refine ta 21 168 (bA 34 134217727) HT_ HW_ ?_ ?_ hHeld ?_ ?_ ?_; rotate_left; (rintro w' ⟨s0, s1, s2, s3, s4, s5, s6, s7, s8, s9, s10, s11, s12, s13, s14, s15, s16, s17, s18, s19, s20, s21, s22⟩; go_simp; with_reducible rfl); rotate_left; (simp only [Act.put, s1, s2, s3, i64_w, i32_w]; rfl)
                                 refine ta 27 174 (bA 34 268435455) HT_ HW_ ?_ ?_ hHeld ?_ ?_ ?_; rotate_left; (rintro w' ⟨s0, s1, s2, s3, s4, s5, s6, s7, s8, s9, s10, s11, s12, s13, s14, s15, s16, s17, s18, s19, s20, s21, s22⟩; go_simp; with_reducible rfl); rotate_left; (simp only [Act.put, s1, s2, s3, i64_w, i32_w]; rfl)
                                 refine pu 28 175 (bA 34 536870911) HT_ ?_ ?_ ?_ ?_ ?_; rotate_left; (intro w'; go_simp; with_reducible rfl); rotate_left; (simp only [Act.put, s1, s2, s3, i64_w, i32_w]; rfl)
                                 refine pu 29 176 (bA 34 1073741823) HT_ ?_ ?_ ?_ ?_ ?_; rotate_left; (intro w'; go_simp; with_reducible rfl); rotate_left; (simp only [Act.put, s1, s2, s3, i64_w, i32_w]; rfl)
                                 refine ta 30 177 (bA 34 2147483647) HT_ HW_ ?_ ?_ hHeld ?_ ?_ ?_; rotate_left; (rintro w' ⟨s0, s1, s2, s3, s4, s5, s6, s7, s8, s9, s10, s11, s12, s13, s14, s15, s16, s17, s18, s19, s20, s21, s22⟩; go_simp; with_reducible rfl); rotate_left; (simp only [Act.put, s1, s2, s3, i64_w, i32_w]; rfl)
                                 refine pu 31 178 (bA 34 4294967295) HT_ ?_ ?_ ?_ ?_ ?_; rotate_left; (intro w'; go_simp; with_reducible rfl); rotate_left; (simp only [Act.put, s1, s2, s3, i64_w, i32_w]; rfl)
                                 refine pu 32 179 (bA 34 8589934591) HT_ ?_ ?_ ?_ ?_ ?_; rotate_left; (intro w'; go_simp; with_reducible rfl); rotate_left; (simp only [Act.put, s1, s2, s3, i64_w, i32_w]; rfl)
                                 refine pu 33 180 (bA 34 17179869183) HT_ ?_ ?_ ?_ ?_ ?_; rotate_left; (intro w'; go_simp; with_reducible rfl); rotate_left; (simp only [Act.put, s1, s2, s3, i64_w, i32_w]; rfl)
                                 refine done_ (done_of HT_.out (by kernel_rfl)) ?_
                                 try go_wp2
                                 go_meet
                                 case rel => exact ⟨_, (decide (((rd_T28 t269 x12_2).f3) ≥ (((rd_T39 l0 ((rd_T28 t269 x12_2).f2)).f3).length : Int))), uf, (by first | exact H' | (rw [← Nbq44.out]; exact H')), ⟨by have := HK1.out; have := HK2.out; have := HJ20.out; first | omega | exact Nat.le_refl _⟩, ⟨by (with_reducible repeat (first | apply Kd.R_alloc | apply Kd.R_drewN | apply Kd.R_drew)); exact HO_9.out⟩, ⟨by (with_reducible repeat (first | refine blk_drewN ?_ _ | refine blk_drew ?_ | refine blk_alloc ?_ _)); first | exact BK277.out | (rw [← Nbq44.out]; exact BK277.out)⟩, ⟨by (with_reducible repeat (first | refine blk_drewN ?_ _ | refine blk_drew ?_ | refine blk_alloc ?_ _)); first | exact BK290.out | (rw [← Nbq44.out]; exact BK290.out)⟩, ⟨by repeat (first | (with_reducible first | exact HB.out | apply below_alloc | apply pw_below_drewN | apply below_drew1 | refine below_set ?_ GE277.out | refine below_set ?_ GE290.out) | exact HB.out)⟩⟩
                                ·rw [if_neg c105] at H
                                 exact absurd H (by simp)
                               ·rw [if_neg c104] at H
                                exact absurd H (by simp)
                           case rest =>
                            clear HC86
                            try clear c1
                            try clear c2
                            try clear p2
                            try clear q2
                            try clear hx2
                            try clear c10
                            try clear c29
                            try clear p29
                            try clear q29
                            try clear hx29
                            try clear c101
                            try clear c101b0
                            try clear c104
                            try clear c104b0
                            try clear c105
                            try clear c105b0
                            try clear hx292_0
                            try clear hx292_1
                            try clear hx292_2
                            try clear hx292_3
                            try clear hx293_0
                            try clear hx293_1
                            try clear hx293_2
                            try clear hx293_3
                            try clear hx294_0
                            try clear hx294_1
                            try clear hx294_2
                            try clear hx294_3
                            try clear hx295_0
                            try clear hx295_1
                            try clear hx295_2
                            try clear hx295_3
                            try clear hx296_0
                            try clear hx296_1
                            try clear hx296_2
                            try clear hx296_3
                            try clear hx296_4
                            try clear hx296_5
                            try clear hx296_6
                            try clear p292
                            try clear p293
                            try clear p294
                            try clear p295
                            try clear p296
                            try clear q292
                            try clear q293
                            try clear q294
                            try clear q295
                            try clear q296
                            obtain ⟨kq, x180_85, rfl, HA, HJ85, HO_9, BK277, BK290, HB⟩ := hcut
                            cases kq with
                            | zero => exact absurd HA.out (by simp [curtilagelaw15_PlanWhole.j3])
                            | succ kj85 =>
                             have H := HA.out
                             clear HA
                             simp only [curtilagelaw15_PlanWhole.j3] at H
                             by_cases c108 : x180_85 = true
                             ·subst c108
                              have H1 : (some false) = some r := by rw [if_pos rfl] at H; exact H
                              clear H
                              have H := H1
                              clear H1
                              exact absurd ((Option.some.inj H).trans HT.out) (by decide)
                             ·replace c108 := Bool.eq_false_iff.mpr c108
                              subst c108
                              have H1 : (if 0 ≤ x12_2 then (if x12_2 < (t269.length : Int) then (if 0 ≤ ((rd_T28 t269 x12_2).f2) then (if ((rd_T28 t269 x12_2).f2) < (l0.length : Int) then (if 0 ≤ ((rd_T28 t269 x12_2).f3) then (if ((rd_T28 t269 x12_2).f3) < (((rd_T39 l0 ((rd_T28 t269 x12_2).f2)).f3).length : Int) then (if ((rd_T42 ((rd_T39 l0 ((rd_T28 t269 x12_2).f2)).f3) ((rd_T28 t269 x12_2).f3)).f0).toList = ((e0_ l0 l2 x13_1 x14_2).f0).toList then (if ((rd_T42 ((rd_T39 l0 ((rd_T28 t269 x12_2).f2)).f3) ((rd_T28 t269 x12_2).f3)).f7 = true) then (curtilagelaw15_PlanWhole.l1 kj85 l0 l2 t267 t269 (wrap64 (x12_2 + 1)) x13_1 (wrap64 (x14_2 + 1))) else (some false)) else (some false)) else (none)) else (none)) else (none)) else (none)) else (none)) else (none)) = some r := by rw [if_neg (show ¬ (false = true) by decide)] at H; exact H
                              clear H
                              have H := H1
                              clear H1
                              by_cases c109 : 0 ≤ x12_2
                              ·rw [if_pos c109] at H
                               have c109b0 : decide (0 ≤ x12_2) = true := decide_eq_true c109
                               clear c109
                               by_cases c110 : x12_2 < (t269.length : Int)
                               ·rw [if_pos c110] at H
                                have c110b0 : decide (x12_2 < (t269.length : Int)) = true := decide_eq_true c110
                                clear c110
                                by_cases c111 : 0 ≤ ((rd_T28 t269 x12_2).f2)
                                ·rw [if_pos c111] at H
                                 have c111b0 : decide (0 ≤ ((rd_T28 t269 x12_2).f2)) = true := decide_eq_true c111
                                 clear c111
                                 by_cases c112 : ((rd_T28 t269 x12_2).f2) < (l0.length : Int)
                                 ·rw [if_pos c112] at H
                                  have c112b0 : decide (((rd_T28 t269 x12_2).f2) < (l0.length : Int)) = true := decide_eq_true c112
                                  clear c112
                                  by_cases c113 : 0 ≤ ((rd_T28 t269 x12_2).f3)
                                  ·rw [if_pos c113] at H
                                   have c113b0 : decide (0 ≤ ((rd_T28 t269 x12_2).f3)) = true := decide_eq_true c113
                                   clear c113
                                   by_cases c114 : ((rd_T28 t269 x12_2).f3) < (((rd_T39 l0 ((rd_T28 t269 x12_2).f2)).f3).length : Int)
                                   ·rw [if_pos c114] at H
                                    have c114b0 : decide (((rd_T28 t269 x12_2).f3) < (((rd_T39 l0 ((rd_T28 t269 x12_2).f2)).f3).length : Int)) = true := decide_eq_true c114
                                    clear c114
                                    by_cases c115 : ((rd_T42 ((rd_T39 l0 ((rd_T28 t269 x12_2).f2)).f3) ((rd_T28 t269 x12_2).f3)).f0).toList = ((e0_ l0 l2 x13_1 x14_2).f0).toList
                                    ·rw [if_pos c115] at H
                                     have c115b0 : (((rd_T42 ((rd_T39 l0 ((rd_T28 t269 x12_2).f2)).f3) ((rd_T28 t269 x12_2).f3)).f0).toList == ((e0_ l0 l2 x13_1 x14_2).f0).toList) = true := beq_iff_eq.mpr c115
                                     have c115b1 : (((rd_T42 ((rd_T39 l0 ((rd_T28 t269 x12_2).f2)).f3) ((rd_T28 t269 x12_2).f3)).f0).toList != ((e0_ l0 l2 x13_1 x14_2).f0).toList) = false := bne_eq_false_iff_eq.mpr c115
                                     clear c115
                                     obtain ⟨bq116, hbq116⟩ : ∃ b_ : Bool, b_ = ((rd_T42 ((rd_T39 l0 ((rd_T28 t269 x12_2).f2)).f3) ((rd_T28 t269 x12_2).f3)).f7) := ⟨_, rfl⟩
                                     replace H : (if (bq116 = true) then (curtilagelaw15_PlanWhole.l1 kj85 l0 l2 t267 t269 (wrap64 (x12_2 + 1)) x13_1 (wrap64 (x14_2 + 1))) else (some false)) = some r := by rw [← hbq116] at H; exact H
                                     have Nbq116 := am hbq116
                                     clear hbq116
                                     by_cases c117 : (bq116 = true)
                                     ·subst c117
                                      have H1 : (curtilagelaw15_PlanWhole.l1 kj85 l0 l2 t267 t269 (wrap64 (x12_2 + 1)) x13_1 (wrap64 (x14_2 + 1))) = some r := by rw [if_pos rfl] at H; exact H
                                      clear H
                                      have H := H1
                                      clear H1
                                      have H' := am H
                                      clear H
                                      try go_wp2
                                      have n0_ := am (Kd.R_drew HO_9.out)
                                      have n1_ := am (blk_drew BK277.out)
                                      have n2_ := am (blk_drew BK290.out)
                                      have n3_ := am (below_drew1 HB.out)
                                      revert n0_ n1_ n2_ n3_
                                      clear HO_9 BK277 BK290 HB
                                      intro HO_9 BK277 BK290 HB
                                      have p297 : 0 ≤ (x12_2 : Int) := ud
                                      have q297 : x12_2 < (t269.length : Int) := ud
                                      obtain ⟨ad297, e297, hx297_0, hx297_1, hx297_2, hx297_3⟩ := at_T28 (Kd.R_reads' HO_9.out).2.2 x12_2 p297 q297
                                      obtain rfl : ad291 = ad297 := (by injection e297)
                                      replace p297 := eq_true p297
                                      replace q297 := eq_true q297
                                      have p298 : 0 ≤ (((rd_T28 t269 x12_2).f2) : Int) := ud
                                      have q298 : ((rd_T28 t269 x12_2).f2) < (l0.length : Int) := ud
                                      obtain ⟨ad298, A298_1, c298_1, A298_2, c298_2, A298_3, c298_3, A298_4, c298_4, A298_5, c298_5, A298_6, c298_6, e298, hx298_0, hx298_1, hx298_2, hx298_3, hx298_4, hx298_5, hx298_6, hl298_1, hi298_1, hl298_2, hi298_2, hl298_3, hi298_3, hl298_4, hi298_4, hl298_5, hi298_5, hl298_6, hi298_6⟩ := at_T39 HR0.out ((rd_T28 t269 x12_2).f2) p298 q298
                                      have hw298_6 := hx298_6
                                      have hw298_5 := hx298_5
                                      have hw298_4 := hx298_4
                                      have hw298_3 := hx298_3
                                      have hw298_2 := hx298_2
                                      have hw298_1 := hx298_1
                                      have hw298_0 := hx298_0
                                      obtain rfl : ad280 = ad298 := (by injection e298)
                                      replace hx298_0 := bcel HB hx298_0
                                      replace hx298_1 := bcel HB hx298_1
                                      replace hx298_2 := bcel HB hx298_2
                                      replace hx298_3 := bcel HB hx298_3
                                      replace hx298_4 := bcel HB hx298_4
                                      replace hx298_5 := bcel HB hx298_5
                                      replace hx298_6 := bcel HB hx298_6
                                      have HR298_1 := am hi298_1
                                      have HC298_1 := am hl298_1
                                      clear hi298_1 hl298_1
                                      have HR298_2 := am hi298_2
                                      have HC298_2 := am hl298_2
                                      clear hi298_2 hl298_2
                                      have HR298_3 := am hi298_3
                                      have HC298_3 := am hl298_3
                                      clear hi298_3 hl298_3
                                      have HR298_4 := am hi298_4
                                      have HC298_4 := am hl298_4
                                      clear hi298_4 hl298_4
                                      have HR298_5 := am hi298_5
                                      have HC298_5 := am hl298_5
                                      clear hi298_5 hl298_5
                                      have HR298_6 := am hi298_6
                                      have HC298_6 := am hl298_6
                                      clear hi298_6 hl298_6
                                      replace p298 := eq_true p298
                                      replace q298 := eq_true q298
                                      have p299 : 0 ≤ (x12_2 : Int) := ud
                                      have q299 : x12_2 < (t269.length : Int) := ud
                                      obtain ⟨ad299, e299, hx299_0, hx299_1, hx299_2, hx299_3⟩ := at_T28 (Kd.R_reads' HO_9.out).2.2 x12_2 p299 q299
                                      obtain rfl : ad291 = ad299 := (by injection e299)
                                      replace p299 := eq_true p299
                                      replace q299 := eq_true q299
                                      have p300 : 0 ≤ (((rd_T28 t269 x12_2).f3) : Int) := ud
                                      have q300 : ((rd_T28 t269 x12_2).f3) < (((rd_T39 l0 ((rd_T28 t269 x12_2).f2)).f3).length : Int) := ud
                                      obtain ⟨ad300, e300, hx300_0, hx300_1, hx300_2, hx300_3, hx300_4, hx300_5, hx300_6, hx300_7⟩ := at_T42 HR298_3.out ((rd_T28 t269 x12_2).f3) p300 q300
                                      have hw300_7 := hx300_7
                                      have hw300_6 := hx300_6
                                      have hw300_5 := hx300_5
                                      have hw300_4 := hx300_4
                                      have hw300_3 := hx300_3
                                      have hw300_2 := hx300_2
                                      have hw300_1 := hx300_1
                                      have hw300_0 := hx300_0
                                      (try rw [← Nbq116.out] at hx300_7)
                                      (try rw [← Nbq116.out] at hw300_7)
                                      cases e300
                                      replace hx300_0 := bcel HB hx300_0
                                      replace hx300_1 := bcel HB hx300_1
                                      replace hx300_2 := bcel HB hx300_2
                                      replace hx300_3 := bcel HB hx300_3
                                      replace hx300_4 := bcel HB hx300_4
                                      replace hx300_5 := bcel HB hx300_5
                                      replace hx300_6 := bcel HB hx300_6
                                      replace hx300_7 := bcel HB hx300_7
                                      replace p300 := eq_true p300
                                      replace q300 := eq_true q300
                                      refine start_ (n := 18) (S := fun w' => w'.cell? (ad291.add ((x12_2).toNat * 4)) = some (.int .i64 ((rd_T28 t269 x12_2).f0)) ∧ w'.cell? ⟨(ad291.add ((x12_2).toNat * 4)).block, (ad291.add ((x12_2).toNat * 4)).off + 1, none⟩ = some (.int .i64 ((rd_T28 t269 x12_2).f1)) ∧ w'.cell? ⟨(ad291.add ((x12_2).toNat * 4)).block, (ad291.add ((x12_2).toNat * 4)).off + 2, none⟩ = some (.int .i64 ((rd_T28 t269 x12_2).f2)) ∧ w'.cell? ⟨(ad291.add ((x12_2).toNat * 4)).block, (ad291.add ((x12_2).toNat * 4)).off + 3, none⟩ = some (.int .i64 ((rd_T28 t269 x12_2).f3)) ∧ w'.cell? (ad280.add ((((rd_T28 t269 x12_2).f2)).toNat * 7)) = some (.string ((rd_T39 l0 ((rd_T28 t269 x12_2).f2)).f0)) ∧ w'.cell? ⟨(ad280.add ((((rd_T28 t269 x12_2).f2)).toNat * 7)).block, (ad280.add ((((rd_T28 t269 x12_2).f2)).toNat * 7)).off + 1, none⟩ = some (.slice A298_1 ((rd_T39 l0 ((rd_T28 t269 x12_2).f2)).f1).length c298_1) ∧ w'.cell? ⟨(ad280.add ((((rd_T28 t269 x12_2).f2)).toNat * 7)).block, (ad280.add ((((rd_T28 t269 x12_2).f2)).toNat * 7)).off + 2, none⟩ = some (.slice A298_2 ((rd_T39 l0 ((rd_T28 t269 x12_2).f2)).f2).length c298_2) ∧ w'.cell? ⟨(ad280.add ((((rd_T28 t269 x12_2).f2)).toNat * 7)).block, (ad280.add ((((rd_T28 t269 x12_2).f2)).toNat * 7)).off + 3, none⟩ = some (.slice (some ad300) ((rd_T39 l0 ((rd_T28 t269 x12_2).f2)).f3).length c298_3) ∧ w'.cell? ⟨(ad280.add ((((rd_T28 t269 x12_2).f2)).toNat * 7)).block, (ad280.add ((((rd_T28 t269 x12_2).f2)).toNat * 7)).off + 4, none⟩ = some (.slice A298_4 ((rd_T39 l0 ((rd_T28 t269 x12_2).f2)).f4).length c298_4) ∧ w'.cell? ⟨(ad280.add ((((rd_T28 t269 x12_2).f2)).toNat * 7)).block, (ad280.add ((((rd_T28 t269 x12_2).f2)).toNat * 7)).off + 5, none⟩ = some (.slice A298_5 ((rd_T39 l0 ((rd_T28 t269 x12_2).f2)).f5).length c298_5) ∧ w'.cell? ⟨(ad280.add ((((rd_T28 t269 x12_2).f2)).toNat * 7)).block, (ad280.add ((((rd_T28 t269 x12_2).f2)).toNat * 7)).off + 6, none⟩ = some (.slice A298_6 ((rd_T39 l0 ((rd_T28 t269 x12_2).f2)).f6).length c298_6) ∧ w'.cell? (ad291.add ((x12_2).toNat * 4)) = some (.int .i64 ((rd_T28 t269 x12_2).f0)) ∧ w'.cell? ⟨(ad291.add ((x12_2).toNat * 4)).block, (ad291.add ((x12_2).toNat * 4)).off + 1, none⟩ = some (.int .i64 ((rd_T28 t269 x12_2).f1)) ∧ w'.cell? ⟨(ad291.add ((x12_2).toNat * 4)).block, (ad291.add ((x12_2).toNat * 4)).off + 2, none⟩ = some (.int .i64 ((rd_T28 t269 x12_2).f2)) ∧ w'.cell? ⟨(ad291.add ((x12_2).toNat * 4)).block, (ad291.add ((x12_2).toNat * 4)).off + 3, none⟩ = some (.int .i64 ((rd_T28 t269 x12_2).f3)) ∧ w'.cell? (ad300.add ((((rd_T28 t269 x12_2).f3)).toNat * 8)) = some (.string ((rd_T42 ((rd_T39 l0 ((rd_T28 t269 x12_2).f2)).f3) ((rd_T28 t269 x12_2).f3)).f0)) ∧ w'.cell? ⟨(ad300.add ((((rd_T28 t269 x12_2).f3)).toNat * 8)).block, (ad300.add ((((rd_T28 t269 x12_2).f3)).toNat * 8)).off + 1, none⟩ = some (.string ((rd_T42 ((rd_T39 l0 ((rd_T28 t269 x12_2).f2)).f3) ((rd_T28 t269 x12_2).f3)).f1)) ∧ w'.cell? ⟨(ad300.add ((((rd_T28 t269 x12_2).f3)).toNat * 8)).block, (ad300.add ((((rd_T28 t269 x12_2).f3)).toNat * 8)).off + 2, none⟩ = some (.int .u64 ((rd_T42 ((rd_T39 l0 ((rd_T28 t269 x12_2).f2)).f3) ((rd_T28 t269 x12_2).f3)).f2)) ∧ w'.cell? ⟨(ad300.add ((((rd_T28 t269 x12_2).f3)).toNat * 8)).block, (ad300.add ((((rd_T28 t269 x12_2).f3)).toNat * 8)).off + 3, none⟩ = some (.int .u64 ((rd_T42 ((rd_T39 l0 ((rd_T28 t269 x12_2).f2)).f3) ((rd_T28 t269 x12_2).f3)).f3)) ∧ w'.cell? ⟨(ad300.add ((((rd_T28 t269 x12_2).f3)).toNat * 8)).block, (ad300.add ((((rd_T28 t269 x12_2).f3)).toNat * 8)).off + 4, none⟩ = some (.int .i64 ((rd_T42 ((rd_T39 l0 ((rd_T28 t269 x12_2).f2)).f3) ((rd_T28 t269 x12_2).f3)).f4)) ∧ w'.cell? ⟨(ad300.add ((((rd_T28 t269 x12_2).f3)).toNat * 8)).block, (ad300.add ((((rd_T28 t269 x12_2).f3)).toNat * 8)).off + 5, none⟩ = some (.int .i64 ((rd_T42 ((rd_T39 l0 ((rd_T28 t269 x12_2).f2)).f3) ((rd_T28 t269 x12_2).f3)).f5)) ∧ w'.cell? ⟨(ad300.add ((((rd_T28 t269 x12_2).f3)).toNat * 8)).block, (ad300.add ((((rd_T28 t269 x12_2).f3)).toNat * 8)).off + 6, none⟩ = some (.int .i64 ((rd_T42 ((rd_T39 l0 ((rd_T28 t269 x12_2).f2)).f3) ((rd_T28 t269 x12_2).f3)).f6)) ∧ w'.cell? ⟨(ad300.add ((((rd_T28 t269 x12_2).f3)).toNat * 8)).block, (ad300.add ((((rd_T28 t269 x12_2).f3)).toNat * 8)).off + 7, none⟩ = some (.bool true)) (ds := []) #[false, false, false, false, false, false, false, false, false, false, false, false, false, false, false, false, false, false] (by kernel_rfl) rfl rfl ⟨hx297_0, hx297_1, hx297_2, hx297_3, (bcel HB hw298_0), (bcel HB hw298_1), (bcel HB hw298_2), (bcel HB hw298_3), (bcel HB hw298_4), (bcel HB hw298_5), (bcel HB hw298_6), hx299_0, hx299_1, hx299_2, hx299_3, (bcel HB hw300_0), (bcel HB hw300_1), (bcel HB hw300_2), (bcel HB hw300_3), (bcel HB hw300_4), (bcel HB hw300_5), (bcel HB hw300_6), (bcel HB hw300_7)⟩ (fun hHeld => ?_); refine with_tabW curtilagelaw15_PlanWhole.tab25 curtilagelaw15_PlanWhole.bits25 (fun HT_ HW_ => ?_)
                                      generalize wc.drew = w118 at HO_9 BK277 BK290 HB HR298_1 HR298_2 HR298_3 HR298_4 HR298_5 HR298_6 hx297_0 hx297_1 hx297_2 hx297_3 hx298_0 hx298_1 hx298_2 hx298_3 hx298_4 hx298_5 hx298_6 hx299_0 hx299_1 hx299_2 hx299_3 hx300_0 hx300_1 hx300_2 hx300_3 hx300_4 hx300_5 hx300_6 hx300_7 hHeld ⊢
                                      refine pu 0 181 (bA 18 1) HT_ ?_ ?_ ?_ ?_ ?_; rotate_left; (intro w'; go_simp; with_reducible rfl); rotate_left; (simp only [Act.put, s1, s2, s3, i64_w, i32_w]; rfl)
                                      refine pu 1 182 (bA 18 3) HT_ ?_ ?_ ?_ ?_ ?_; rotate_left; (intro w'; go_simp; with_reducible rfl); rotate_left; (simp only [Act.put, s1, s2, s3, i64_w, i32_w]; rfl)
                                      refine pu 2 183 (bA 18 7) HT_ ?_ ?_ ?_ ?_ ?_; rotate_left; (intro w'; go_simp; with_reducible rfl); rotate_left; (simp only [Act.put, s1, s2, s3, i64_w, i32_w]; rfl)
                                      refine pu 3 184 (bA 18 15) HT_ ?_ ?_ ?_ ?_ ?_; rotate_left; (intro w'; go_simp; with_reducible rfl); rotate_left; (simp only [Act.put, s1, s2, s3, i64_w, i32_w]; rfl)
                                      refine pu 4 185 (bA 18 31) HT_ ?_ ?_ ?_ ?_ ?_; rotate_left; (intro w'; go_simp; with_reducible rfl); rotate_left; (simp only [Act.put, s1, s2, s3, i64_w, i32_w]; rfl)
                                      refine pu 9 190 (bA 18 543) HT_ ?_ ?_ ?_ ?_ ?_; rotate_left; (intro w'; go_simp; with_reducible rfl); rotate_left; (simp only [Act.put, s1, s2, s3, i64_w, i32_w]; rfl)
                                      refine pu 10 191 (bA 18 1567) HT_ ?_ ?_ ?_ ?_ ?_; rotate_left; (intro w'; go_simp; with_reducible rfl); rotate_left; (simp only [Act.put, s1, s2, s3, i64_w, i32_w]; rfl)
                                      refine pu 11 192 (bA 18 3615) HT_ ?_ ?_ ?_ ?_ ?_; rotate_left; (intro w'; go_simp; with_reducible rfl); rotate_left; (simp only [Act.put, s1, s2, s3, i64_w, i32_w]; rfl)
                                      refine pu 12 193 (bA 18 7711) HT_ ?_ ?_ ?_ ?_ ?_; rotate_left; (intro w'; go_simp; with_reducible rfl); rotate_left; (simp only [Act.put, s1, s2, s3, i64_w, i32_w]; rfl)
                                      refine ta 5 186 (bA 18 7743) HT_ HW_ ?_ ?_ hHeld ?_ ?_ ?_; rotate_left; (rintro w' ⟨s0, s1, s2, s3, s4, s5, s6, s7, s8, s9, s10, s11, s12, s13, s14, s15, s16, s17, s18, s19, s20, s21, s22⟩; go_simp; with_reducible rfl); rotate_left; (simp only [Act.put, s1, s2, s3, i64_w, i32_w]; rfl)
                                      refine pu 6 187 (bA 18 7807) HT_ ?_ ?_ ?_ ?_ ?_; rotate_left; (intro w'; go_simp; with_reducible rfl); rotate_left; (simp only [Act.put, s1, s2, s3, i64_w, i32_w]; rfl)
                                      refine pu 7 188 (bA 18 7935) HT_ ?_ ?_ ?_ ?_ ?_; rotate_left; (intro w'; go_simp; with_reducible rfl); rotate_left; (simp only [Act.put, s1, s2, s3, i64_w, i32_w]; rfl)
                                      refine ta 8 189 (bA 18 8191) HT_ HW_ ?_ ?_ hHeld ?_ ?_ ?_; rotate_left; (rintro w' ⟨s0, s1, s2, s3, s4, s5, s6, s7, s8, s9, s10, s11, s12, s13, s14, s15, s16, s17, s18, s19, s20, s21, s22⟩; go_simp; with_reducible rfl); rotate_left; (simp only [Act.put, s1, s2, s3, i64_w, i32_w]; rfl)
                                      refine ta 13 194 (bA 18 16383) HT_ HW_ ?_ ?_ hHeld ?_ ?_ ?_; rotate_left; (rintro w' ⟨s0, s1, s2, s3, s4, s5, s6, s7, s8, s9, s10, s11, s12, s13, s14, s15, s16, s17, s18, s19, s20, s21, s22⟩; go_simp; with_reducible rfl); rotate_left; (simp only [Act.put, s1, s2, s3, i64_w, i32_w]; rfl)
                                      refine pu 14 195 (bA 18 32767) HT_ ?_ ?_ ?_ ?_ ?_; rotate_left; (intro w'; go_simp; with_reducible rfl); rotate_left; (simp only [Act.put, s1, s2, s3, i64_w, i32_w]; rfl)
                                      refine ta 15 196 (bA 18 65535) HT_ HW_ ?_ ?_ hHeld ?_ ?_ ?_; rotate_left; (rintro w' ⟨s0, s1, s2, s3, s4, s5, s6, s7, s8, s9, s10, s11, s12, s13, s14, s15, s16, s17, s18, s19, s20, s21, s22⟩; go_simp; with_reducible rfl); rotate_left; (simp only [Act.put, s1, s2, s3, i64_w, i32_w]; rfl)
                                      refine one_ (i := 16) (N := some 16) #[true, true, true, true, true, true, true, true, true, true, true, true, true, true, true, true, true, false] rfl rfl (one_of HT_.out (by kernel_rfl)) (by decide) (fun K hK => ?_)
                                      refine box_step ?hg (N := 16) ?hd (cs := #[.string (⟨#[]⟩ : ByteArray), .string (⟨#[]⟩ : ByteArray), .int .u64 0, .int .u64 0, .int .i64 0, .int .i64 0, .int .i64 0, .bool false]) (t := 42) ?hr ?_; (case hd => rfl); (case hg => rfl); (case hr => first | (go_simp; done) | (go_simp; rfl))
                                      intro gb301 hg w119 hbox hb
                                      have HS0_ := (hb.cell (World.block_lt_of_cell? _ _ (hHeld.1))).trans (hHeld.1)
                                      have HS1_ := (hb.cell (World.block_lt_of_cell? _ _ (hHeld.2.1))).trans (hHeld.2.1)
                                      have HS2_ := (hb.cell (World.block_lt_of_cell? _ _ (hHeld.2.2.1))).trans (hHeld.2.2.1)
                                      have HS3_ := (hb.cell (World.block_lt_of_cell? _ _ (hHeld.2.2.2.1))).trans (hHeld.2.2.2.1)
                                      have HS11_ := (hb.cell (World.block_lt_of_cell? _ _ (hHeld.2.2.2.2.2.2.2.2.2.2.2.1))).trans (hHeld.2.2.2.2.2.2.2.2.2.2.2.1)
                                      have HS12_ := (hb.cell (World.block_lt_of_cell? _ _ (hHeld.2.2.2.2.2.2.2.2.2.2.2.2.1))).trans (hHeld.2.2.2.2.2.2.2.2.2.2.2.2.1)
                                      have HS13_ := (hb.cell (World.block_lt_of_cell? _ _ (hHeld.2.2.2.2.2.2.2.2.2.2.2.2.2.1))).trans (hHeld.2.2.2.2.2.2.2.2.2.2.2.2.2.1)
                                      have HS14_ := (hb.cell (World.block_lt_of_cell? _ _ (hHeld.2.2.2.2.2.2.2.2.2.2.2.2.2.2.1))).trans (hHeld.2.2.2.2.2.2.2.2.2.2.2.2.2.2.1)
                                      have n0_ := am (Kd.R_below (ua HO_9.out) hb)
                                      have n1_ := am (blk_below (g := gb277) (o := .cells #[.int .i64 t272, .int .i64 t273, .int .i64 t274, .int .i64 t275] 28 (0, 0)) (ub BK277.out) hb)
                                      have n2_ := am (blk_below (g := gb290) (o := .cells #[.string ((e0_ l0 l2 x13_1 x14_2).f0), .string ((e0_ l0 l2 x13_1 x14_2).f1), .int .u64 ((e0_ l0 l2 x13_1 x14_2).f2), .int .u64 ((e0_ l0 l2 x13_1 x14_2).f3), .int .i64 ((e0_ l0 l2 x13_1 x14_2).f4), .int .i64 ((e0_ l0 l2 x13_1 x14_2).f5), .int .i64 ((e0_ l0 l2 x13_1 x14_2).f6), .bool ((e0_ l0 l2 x13_1 x14_2).f7)] 42 (0, 0)) (ub BK290.out) hb)
                                      have n3_ := am (below_step (uc HB.out) hb)
                                      have n4_ := am (hbox)
                                      have n5_ := am ((by rw [hg]; exact (below_size (uc HB.out)) : w.heap.size ≤ gb301))
                                      have n6_ := am ((by rw [hg]; exact (below_size (uc HB.out)) : w.heap.size ≤ gb301))
                                      have n7_ := am ((by rw [hg]; exact Nat.ne_of_lt (blk_lt (g := gb277) (o := .cells #[.int .i64 t272, .int .i64 t273, .int .i64 t274, .int .i64 t275] 28 (0, 0)) (ub BK277.out)) : gb277 ≠ gb301))
                                      have n8_ := am ((by rw [hg]; exact Nat.ne_of_gt (blk_lt (g := gb277) (o := .cells #[.int .i64 t272, .int .i64 t273, .int .i64 t274, .int .i64 t275] 28 (0, 0)) (ub BK277.out)) : gb301 ≠ gb277))
                                      have n9_ := am ((by rw [hg]; exact Nat.ne_of_lt (blk_lt (g := gb290) (o := .cells #[.string ((e0_ l0 l2 x13_1 x14_2).f0), .string ((e0_ l0 l2 x13_1 x14_2).f1), .int .u64 ((e0_ l0 l2 x13_1 x14_2).f2), .int .u64 ((e0_ l0 l2 x13_1 x14_2).f3), .int .i64 ((e0_ l0 l2 x13_1 x14_2).f4), .int .i64 ((e0_ l0 l2 x13_1 x14_2).f5), .int .i64 ((e0_ l0 l2 x13_1 x14_2).f6), .bool ((e0_ l0 l2 x13_1 x14_2).f7)] 42 (0, 0)) (ub BK290.out)) : gb290 ≠ gb301))
                                      have n10_ := am ((by rw [hg]; exact Nat.ne_of_gt (blk_lt (g := gb290) (o := .cells #[.string ((e0_ l0 l2 x13_1 x14_2).f0), .string ((e0_ l0 l2 x13_1 x14_2).f1), .int .u64 ((e0_ l0 l2 x13_1 x14_2).f2), .int .u64 ((e0_ l0 l2 x13_1 x14_2).f3), .int .i64 ((e0_ l0 l2 x13_1 x14_2).f4), .int .i64 ((e0_ l0 l2 x13_1 x14_2).f5), .int .i64 ((e0_ l0 l2 x13_1 x14_2).f6), .bool ((e0_ l0 l2 x13_1 x14_2).f7)] 42 (0, 0)) (ub BK290.out)) : gb301 ≠ gb290))
                                      revert n0_ n1_ n2_ n3_ n4_ n5_ n6_ n7_ n8_ n9_ n10_
                                      clear HO_9 BK277 BK290 HB
                                      intro HO_9 BK277 BK290 HB BK301 GW301 GE301 NB277_301 NB301_277 NB290_301 NB301_290
                                      clear hb hbox hg
                                      refine hK.out _ _ ⟨HS0_, HS1_, HS2_, HS3_, (bcel HB hw298_0), (bcel HB hw298_1), (bcel HB hw298_2), (bcel HB hw298_3), (bcel HB hw298_4), (bcel HB hw298_5), (bcel HB hw298_6), HS11_, HS12_, HS13_, HS14_, (bcel HB hw300_0), (bcel HB hw300_1), (bcel HB hw300_2), (bcel HB hw300_3), (bcel HB hw300_4), (bcel HB hw300_5), (bcel HB hw300_6), (bcel HB hw300_7)⟩ (fun hHeld => ?_)
                                      clear hK K
                                      refine norm_ (a' := ?_) ?_ ?_
                                      rotate_left
                                      ·show Act.put _ (some 16) _ = _
                                       simp only [Act.put, List.setIfInBounds_toArray, List.set_cons_zero, List.set_cons_succ, i64_w, i32_w]
                                       rfl
                                      refine one_ (i := 17) (N := none) #[true, true, true, true, true, true, true, true, true, true, true, true, true, true, true, true, true, true] rfl rfl (one_of HT_.out (by kernel_rfl)) (by decide) (fun K hK => ?_)
                                      have hs120 : w119.cell? ⟨gb301, 0, none⟩ = some (.string (⟨#[]⟩ : ByteArray)) := (blk_cell BK301.out 0).trans rfl
                                      have hfs120 := blk_frozen BK301.out 0
                                      have hns120_0 := NB277_301.out
                                      have hns120_1 := NB290_301.out
                                      have hms120_0 := NB301_277.out
                                      have hms120_1 := NB301_290.out
                                      have hs121 : w119.cell? ⟨gb301, 1, none⟩ = some (.string (⟨#[]⟩ : ByteArray)) := (blk_cell BK301.out 1).trans rfl
                                      have hfs121 := blk_frozen BK301.out 1
                                      have hns121_0 := NB277_301.out
                                      have hns121_1 := NB290_301.out
                                      have hms121_0 := NB301_277.out
                                      have hms121_1 := NB301_290.out
                                      have hs122 : w119.cell? ⟨gb301, 2, none⟩ = some (.int .u64 0) := (blk_cell BK301.out 2).trans rfl
                                      have hfs122 := blk_frozen BK301.out 2
                                      have hns122_0 := NB277_301.out
                                      have hns122_1 := NB290_301.out
                                      have hms122_0 := NB301_277.out
                                      have hms122_1 := NB301_290.out
                                      have hs123 : w119.cell? ⟨gb301, 3, none⟩ = some (.int .u64 0) := (blk_cell BK301.out 3).trans rfl
                                      have hfs123 := blk_frozen BK301.out 3
                                      have hns123_0 := NB277_301.out
                                      have hns123_1 := NB290_301.out
                                      have hms123_0 := NB301_277.out
                                      have hms123_1 := NB301_290.out
                                      have hs124 : w119.cell? ⟨gb301, 4, none⟩ = some (.int .i64 0) := (blk_cell BK301.out 4).trans rfl
                                      have hfs124 := blk_frozen BK301.out 4
                                      have hns124_0 := NB277_301.out
                                      have hns124_1 := NB290_301.out
                                      have hms124_0 := NB301_277.out
                                      have hms124_1 := NB301_290.out
                                      have hs125 : w119.cell? ⟨gb301, 5, none⟩ = some (.int .i64 0) := (blk_cell BK301.out 5).trans rfl
                                      have hfs125 := blk_frozen BK301.out 5
                                      have hns125_0 := NB277_301.out
                                      have hns125_1 := NB290_301.out
                                      have hms125_0 := NB301_277.out
                                      have hms125_1 := NB301_290.out
                                      have hs126 : w119.cell? ⟨gb301, 6, none⟩ = some (.int .i64 0) := (blk_cell BK301.out 6).trans rfl
                                      have hfs126 := blk_frozen BK301.out 6
                                      have hns126_0 := NB277_301.out
                                      have hns126_1 := NB290_301.out
                                      have hms126_0 := NB301_277.out
                                      have hms126_1 := NB301_290.out
                                      have hs127 : w119.cell? ⟨gb301, 7, none⟩ = some (.bool false) := (blk_cell BK301.out 7).trans (by first | with_reducible rfl | (rw [← Nbq116.out]; rfl) | (rw [← Nbq44.out]; rfl) | rfl)
                                      have hfs127 := blk_frozen BK301.out 7
                                      have hns127_0 := NB277_301.out
                                      have hns127_1 := NB290_301.out
                                      have hms127_0 := NB301_277.out
                                      have hms127_1 := NB301_290.out
                                      refine skip_ (w1 := ?_) (by rfl) rfl ?_ ?_
                                      rotate_left
                                      ·go_simp
                                       rfl
                                      refine hK.out _ _ ⟨((cnf8 (Kd.own_blk (Kd.R_ne HO_9.out BK301.out (by decide)))).trans (hHeld.1)), ((cnf8 (Kd.own_blk (Kd.R_ne HO_9.out BK301.out (by decide)))).trans (hHeld.2.1)), ((cnf8 (Kd.own_blk (Kd.R_ne HO_9.out BK301.out (by decide)))).trans (hHeld.2.2.1)), ((cnf8 (Kd.own_blk (Kd.R_ne HO_9.out BK301.out (by decide)))).trans (hHeld.2.2.2.1)), ((cfar8 hw298_0 GW301.out).trans (hHeld.2.2.2.2.1)), ((cfar8 hw298_1 GW301.out).trans (hHeld.2.2.2.2.2.1)), ((cfar8 hw298_2 GW301.out).trans (hHeld.2.2.2.2.2.2.1)), ((cfar8 hw298_3 GW301.out).trans (hHeld.2.2.2.2.2.2.2.1)), ((cfar8 hw298_4 GW301.out).trans (hHeld.2.2.2.2.2.2.2.2.1)), ((cfar8 hw298_5 GW301.out).trans (hHeld.2.2.2.2.2.2.2.2.2.1)), ((cfar8 hw298_6 GW301.out).trans (hHeld.2.2.2.2.2.2.2.2.2.2.1)), ((cnf8 (Kd.own_blk (Kd.R_ne HO_9.out BK301.out (by decide)))).trans (hHeld.2.2.2.2.2.2.2.2.2.2.2.1)), ((cnf8 (Kd.own_blk (Kd.R_ne HO_9.out BK301.out (by decide)))).trans (hHeld.2.2.2.2.2.2.2.2.2.2.2.2.1)), ((cnf8 (Kd.own_blk (Kd.R_ne HO_9.out BK301.out (by decide)))).trans (hHeld.2.2.2.2.2.2.2.2.2.2.2.2.2.1)), ((cnf8 (Kd.own_blk (Kd.R_ne HO_9.out BK301.out (by decide)))).trans (hHeld.2.2.2.2.2.2.2.2.2.2.2.2.2.2.1)), ((cfar8 hw300_0 GW301.out).trans (hHeld.2.2.2.2.2.2.2.2.2.2.2.2.2.2.2.1)), ((cfar8 hw300_1 GW301.out).trans (hHeld.2.2.2.2.2.2.2.2.2.2.2.2.2.2.2.2.1)), ((cfar8 hw300_2 GW301.out).trans (hHeld.2.2.2.2.2.2.2.2.2.2.2.2.2.2.2.2.2.1)), ((cfar8 hw300_3 GW301.out).trans (hHeld.2.2.2.2.2.2.2.2.2.2.2.2.2.2.2.2.2.2.1)), ((cfar8 hw300_4 GW301.out).trans (hHeld.2.2.2.2.2.2.2.2.2.2.2.2.2.2.2.2.2.2.2.1)), ((cfar8 hw300_5 GW301.out).trans (hHeld.2.2.2.2.2.2.2.2.2.2.2.2.2.2.2.2.2.2.2.2.1)), ((cfar8 hw300_6 GW301.out).trans (hHeld.2.2.2.2.2.2.2.2.2.2.2.2.2.2.2.2.2.2.2.2.2.1)), ((cfar8 hw300_7 GW301.out).trans (hHeld.2.2.2.2.2.2.2.2.2.2.2.2.2.2.2.2.2.2.2.2.2.2))⟩ (fun hHeld => ?_)
                                      clear hK K
                                      refine done_ (done_of HT_.out (by kernel_rfl)) ?_
                                      have hnb128 := NB301_277.out
                                      have hnc128 := NB277_301.out
                                      have hnb129 := NB301_290.out
                                      have hnc129 := NB290_301.out
                                      have hcz130_0 : w119.cell? ⟨gb301, 0, none⟩ = some (.string (⟨#[]⟩ : ByteArray)) := (blk_cell BK301.out 0).trans rfl
                                      have hcz130_1 : w119.cell? ⟨gb301, 1, none⟩ = some (.string (⟨#[]⟩ : ByteArray)) := (blk_cell BK301.out 1).trans rfl
                                      have hcz130_2 : w119.cell? ⟨gb301, 2, none⟩ = some (.int .u64 0) := (blk_cell BK301.out 2).trans rfl
                                      have hcz130_3 : w119.cell? ⟨gb301, 3, none⟩ = some (.int .u64 0) := (blk_cell BK301.out 3).trans rfl
                                      have hcz130_4 : w119.cell? ⟨gb301, 4, none⟩ = some (.int .i64 0) := (blk_cell BK301.out 4).trans rfl
                                      have hcz130_5 : w119.cell? ⟨gb301, 5, none⟩ = some (.int .i64 0) := (blk_cell BK301.out 5).trans rfl
                                      have hcz130_6 : w119.cell? ⟨gb301, 6, none⟩ = some (.int .i64 0) := (blk_cell BK301.out 6).trans rfl
                                      have hcz130_7 : w119.cell? ⟨gb301, 7, none⟩ = some (.bool false) := (blk_cell BK301.out 7).trans (by first | with_reducible rfl | (rw [← Nbq116.out]; rfl) | (rw [← Nbq44.out]; rfl) | rfl)
                                      have hfz130_0 := blk_frozen BK301.out 0
                                      have hfz130_1 := blk_frozen BK301.out 1
                                      have hfz130_2 := blk_frozen BK301.out 2
                                      have hfz130_3 := blk_frozen BK301.out 3
                                      have hfz130_4 := blk_frozen BK301.out 4
                                      have hfz130_5 := blk_frozen BK301.out 5
                                      have hfz130_6 := blk_frozen BK301.out 6
                                      have hfz130_7 := blk_frozen BK301.out 7
                                      have hnb131 := NB290_277.out
                                      have hnc131 := NB277_290.out
                                      have hcz132_0 : w119.cell? ⟨gb290, 0, none⟩ = some (.string ((e0_ l0 l2 x13_1 x14_2).f0)) := (blk_cell BK290.out 0).trans rfl
                                      have hcz132_1 : w119.cell? ⟨gb290, 1, none⟩ = some (.string ((e0_ l0 l2 x13_1 x14_2).f1)) := (blk_cell BK290.out 1).trans rfl
                                      have hcz132_2 : w119.cell? ⟨gb290, 2, none⟩ = some (.int .u64 ((e0_ l0 l2 x13_1 x14_2).f2)) := (blk_cell BK290.out 2).trans rfl
                                      have hcz132_3 : w119.cell? ⟨gb290, 3, none⟩ = some (.int .u64 ((e0_ l0 l2 x13_1 x14_2).f3)) := (blk_cell BK290.out 3).trans rfl
                                      have hcz132_4 : w119.cell? ⟨gb290, 4, none⟩ = some (.int .i64 ((e0_ l0 l2 x13_1 x14_2).f4)) := (blk_cell BK290.out 4).trans rfl
                                      have hcz132_5 : w119.cell? ⟨gb290, 5, none⟩ = some (.int .i64 ((e0_ l0 l2 x13_1 x14_2).f5)) := (blk_cell BK290.out 5).trans rfl
                                      have hcz132_6 : w119.cell? ⟨gb290, 6, none⟩ = some (.int .i64 ((e0_ l0 l2 x13_1 x14_2).f6)) := (blk_cell BK290.out 6).trans rfl
                                      have hcz132_7 : w119.cell? ⟨gb290, 7, none⟩ = some (.bool ((e0_ l0 l2 x13_1 x14_2).f7)) := (blk_cell BK290.out 7).trans rfl
                                      have hfz132_0 := blk_frozen BK290.out 0
                                      have hfz132_1 := blk_frozen BK290.out 1
                                      have hfz132_2 := blk_frozen BK290.out 2
                                      have hfz132_3 := blk_frozen BK290.out 3
                                      have hfz132_4 := blk_frozen BK290.out 4
                                      have hfz132_5 := blk_frozen BK290.out 5
                                      have hfz132_6 := blk_frozen BK290.out 6
                                      have hfz132_7 := blk_frozen BK290.out 7
                                      try go_wp2
                                      go_roundg kj85
                                      case measure => have := HK1.out; have := HK2.out; have := HJ20.out; have := HJ85.out; omega
                                      case rel => exact ⟨(wrap64 (x12_2 + 1)), (wrap64 (x14_2 + 1)), uf, uf, (by first | exact H' | (rw [← Nbq116.out]; exact H') | (rw [← Nbq44.out]; exact H')), ⟨by have := HK1.out; have := HK2.out; have := HJ20.out; have := HJ85.out; omega⟩, ⟨by (with_reducible repeat (first | apply Kd.R_alloc | apply Kd.R_drewN | apply Kd.R_drew)); exact Kd.R_mono (Kd.R_far (p := ⟨gb301, 7, none⟩) (Kd.R_far (p := ⟨gb301, 6, none⟩) (Kd.R_far (p := ⟨gb301, 5, none⟩) (Kd.R_far (p := ⟨gb301, 4, none⟩) (Kd.R_far (p := ⟨gb301, 3, none⟩) (Kd.R_far (p := ⟨gb301, 2, none⟩) (Kd.R_far (p := ⟨gb301, 1, none⟩) (Kd.R_far (p := ⟨gb301, 0, none⟩) (Kd.R_types HO_9.out BK301.out (by decide)) (fun _ hk => hk.2) (.string ((rd_T42 ((rd_T39 l0 ((rd_T28 t269 x12_2).f2)).f3) ((rd_T28 t269 x12_2).f3)).f0))) (fun _ hk => hk.2) (.string ((rd_T42 ((rd_T39 l0 ((rd_T28 t269 x12_2).f2)).f3) ((rd_T28 t269 x12_2).f3)).f1))) (fun _ hk => hk.2) (.int .u64 ((rd_T42 ((rd_T39 l0 ((rd_T28 t269 x12_2).f2)).f3) ((rd_T28 t269 x12_2).f3)).f2))) (fun _ hk => hk.2) (.int .u64 ((rd_T42 ((rd_T39 l0 ((rd_T28 t269 x12_2).f2)).f3) ((rd_T28 t269 x12_2).f3)).f3))) (fun _ hk => hk.2) (.int .i64 ((rd_T42 ((rd_T39 l0 ((rd_T28 t269 x12_2).f2)).f3) ((rd_T28 t269 x12_2).f3)).f4))) (fun _ hk => hk.2) (.int .i64 ((rd_T42 ((rd_T39 l0 ((rd_T28 t269 x12_2).f2)).f3) ((rd_T28 t269 x12_2).f3)).f5))) (fun _ hk => hk.2) (.int .i64 ((rd_T42 ((rd_T39 l0 ((rd_T28 t269 x12_2).f2)).f3) ((rd_T28 t269 x12_2).f3)).f6))) (fun _ hk => hk.2) (.bool true)) (fun _ hk => hk.1)⟩, ⟨by (iterate 8 ((with_reducible repeat (first | refine blk_drewN ?_ _ | refine blk_drew ?_ | refine blk_alloc ?_ _)); refine blk_far ?_ NB277_301.out _)); (with_reducible repeat (first | refine blk_drewN ?_ _ | refine blk_drew ?_ | refine blk_alloc ?_ _)); first | exact BK277.out | (rw [← Nbq116.out]; exact BK277.out) | (rw [← Nbq44.out]; exact BK277.out)⟩, ⟨by repeat (first | (with_reducible first | exact HB.out | apply below_alloc | apply pw_below_drewN | apply below_drew1 | refine below_set ?_ GE277.out | refine below_set ?_ GE290.out | refine below_set ?_ GE301.out) | exact HB.out)⟩⟩
                                     ·replace c117 := Bool.eq_false_iff.mpr c117
                                      subst c117
                                      have H1 : (some false) = some r := by rw [if_neg (show ¬ (false = true) by decide)] at H; exact H
                                      clear H
                                      have H := H1
                                      clear H1
                                      exact absurd ((Option.some.inj H).trans HT.out) (by decide)
                                    ·rw [if_neg c115] at H
                                     have c115b0 : (((rd_T42 ((rd_T39 l0 ((rd_T28 t269 x12_2).f2)).f3) ((rd_T28 t269 x12_2).f3)).f0).toList == ((e0_ l0 l2 x13_1 x14_2).f0).toList) = false := beq_eq_false_iff_ne.mpr c115
                                     have c115b1 : (((rd_T42 ((rd_T39 l0 ((rd_T28 t269 x12_2).f2)).f3) ((rd_T28 t269 x12_2).f3)).f0).toList != ((e0_ l0 l2 x13_1 x14_2).f0).toList) = true := bne_iff_ne.mpr c115
                                     exact absurd ((Option.some.inj H).trans HT.out) (by decide)
                                   ·rw [if_neg c114] at H
                                    exact absurd H (by simp)
                                  ·rw [if_neg c113] at H
                                   exact absurd H (by simp)
                                 ·rw [if_neg c112] at H
                                  exact absurd H (by simp)
                                ·rw [if_neg c111] at H
                                 exact absurd H (by simp)
                               ·rw [if_neg c110] at H
                                exact absurd H (by simp)
                              ·rw [if_neg c109] at H
                               exact absurd H (by simp)
                         ·rw [if_neg c42] at H
                          exact absurd H (by simp)
                        ·rw [if_neg c41] at H
                         exact absurd H (by simp)
                       ·rw [if_neg c40] at H
                        exact absurd H (by simp)
                      ·rw [if_neg c39] at H
                       exact absurd H (by simp)
                     ·rw [if_neg c38] at H
                      exact absurd H (by simp)
                    ·rw [if_neg c37] at H
                     exact absurd H (by simp)
                   ·rw [if_neg c36] at H
                    exact absurd H (by simp)
                  ·rw [if_neg c35] at H
                   exact absurd H (by simp)
                 ·rw [if_neg c34] at H
                  exact absurd H (by simp)
                ·rw [if_neg c33] at H
                 exact absurd H (by simp)
            ·rw [if_neg c20] at H
             have c20b0 : decide (x14_2 < (((rd_T39 l0 (rd l2 x13_1)).f4).length : Int)) = false := decide_eq_false c20
             clear c20
             have H' := am H
             clear H
             have p279 : 0 ≤ (x13_1 : Int) := ud
             have q279 : x13_1 < (l2.length : Int) := ud
             obtain ⟨ad279, e279, hx279_0⟩ := Kd.at_int HR2.out x13_1 p279 q279
             cases e279
             replace hx279_0 := bcel HB hx279_0
             replace p279 := eq_true p279
             replace q279 := eq_true q279
             have p280 : 0 ≤ ((rd l2 x13_1) : Int) := ud
             have q280 : (rd l2 x13_1) < (l0.length : Int) := ud
             obtain ⟨ad280, A280_1, c280_1, A280_2, c280_2, A280_3, c280_3, A280_4, c280_4, A280_5, c280_5, A280_6, c280_6, e280, hx280_0, hx280_1, hx280_2, hx280_3, hx280_4, hx280_5, hx280_6, hl280_1, hi280_1, hl280_2, hi280_2, hl280_3, hi280_3, hl280_4, hi280_4, hl280_5, hi280_5, hl280_6, hi280_6⟩ := at_T39 HR0.out (rd l2 x13_1) p280 q280
             cases e280
             replace hx280_0 := bcel HB hx280_0
             replace hx280_1 := bcel HB hx280_1
             replace hx280_2 := bcel HB hx280_2
             replace hx280_3 := bcel HB hx280_3
             replace hx280_4 := bcel HB hx280_4
             replace hx280_5 := bcel HB hx280_5
             replace hx280_6 := bcel HB hx280_6
             have HR280_1 := am hi280_1
             have HC280_1 := am hl280_1
             clear hi280_1 hl280_1
             have HR280_2 := am hi280_2
             have HC280_2 := am hl280_2
             clear hi280_2 hl280_2
             have HR280_3 := am hi280_3
             have HC280_3 := am hl280_3
             clear hi280_3 hl280_3
             have HR280_4 := am hi280_4
             have HC280_4 := am hl280_4
             clear hi280_4 hl280_4
             have HR280_5 := am hi280_5
             have HC280_5 := am hl280_5
             clear hi280_5 hl280_5
             have HR280_6 := am hi280_6
             have HC280_6 := am hl280_6
             clear hi280_6 hl280_6
             replace p280 := eq_true p280
             replace q280 := eq_true q280
             go_wp2
             go_roundg k2
             case measure => have := HK1.out; have := HK2.out; omega
             case rel => exact ⟨(x12_2), (wrap64 (x13_1 + 1)), uf, uf, (by first | exact H' | (rw [← Nbq116.out]; exact H') | (rw [← Nbq44.out]; exact H')), ⟨by have := HK1.out; have := HK2.out; omega⟩, ⟨by (with_reducible repeat (first | apply Kd.R_alloc | apply Kd.R_drewN | apply Kd.R_drew)); exact HO_9.out⟩, ⟨by (with_reducible repeat (first | refine blk_drewN ?_ _ | refine blk_drew ?_ | refine blk_alloc ?_ _)); first | exact BK277.out | (rw [← Nbq116.out]; exact BK277.out) | (rw [← Nbq44.out]; exact BK277.out)⟩, ⟨by repeat (first | (with_reducible first | exact HB.out | apply below_alloc | apply pw_below_drewN | apply below_drew1 | refine below_set ?_ GE277.out) | exact HB.out)⟩⟩
           ·rw [if_neg c19] at H
            exact absurd H (by simp)
          ·rw [if_neg c18] at H
           exact absurd H (by simp)
         ·rw [if_neg c17] at H
          exact absurd H (by simp)
        ·rw [if_neg c16] at H
         exact absurd H (by simp)
     ·rw [if_neg c15] at H
      have c15b0 : decide (x13_1 < (l2.length : Int)) = false := decide_eq_false c15
      clear c15
      by_cases c163 : t267 = true
      ·subst c163
       have H1 : (some (x12_1 == (t269.length : Int))) = some r := by rw [if_pos rfl] at H; exact H
       clear H
       have H := H1
       clear H1
       obtain rfl := Option.some.inj H
       obtain ⟨Ao164, co164, eo164⟩ := Kd.R_slice HO_9.out
       subst eo164
       go_wp2
       go_ret
       exact ⟨by first | rfl | (simp [errW_none, errW_some] <;> rfl) | (simp [*, errW_none, errW_some] <;> rfl), by repeat (first | (with_reducible first | exact HB.out | apply below_alloc | apply pw_below_drewN | apply below_drew1 | refine below_set ?_ GE277.out) | exact HB.out)⟩
      ·replace c163 := Bool.eq_false_iff.mpr c163
       subst c163
       have H1 : (some false) = some r := by rw [if_neg (show ¬ (false = true) by decide)] at H; exact H
       clear H
       have H := H1
       clear H1
       exact absurd ((Option.some.inj H).trans HT.out) (by decide)
  ·rw [if_neg c8] at H
   have c8b0 : (t276 == 0) = false := beq_eq_false_iff_ne.mpr c8
   have c8b1 : (t276 != 0) = true := bne_iff_ne.mpr c8
   by_cases c165 : t272 < 0
   ·rw [if_pos c165] at H
    have c165b0 : decide (t272 < 0) = true := decide_eq_true c165
    clear c165
    exact absurd ((Option.some.inj H).trans HT.out) (by decide)
   ·rw [if_neg c165] at H
    have c165b0 : decide (t272 < 0) = false := decide_eq_false c165
    clear c165
    by_cases c173 : t272 ≥ (l0.length : Int)
    ·rw [if_pos c173] at H
     have c173b0 : decide ((l0.length : Int) ≤ t272) = true := decide_eq_true c173
     clear c173
     exact absurd ((Option.some.inj H).trans HT.out) (by decide)
    ·rw [if_neg c173] at H
     have c173b0 : decide ((l0.length : Int) ≤ t272) = false := decide_eq_false c173
     clear c173
     by_cases c181 : t267 = true
     ·subst c181
      have H1 : (if (t269.length : Int) = 0 then (if t273 ≥ 0 then (if 0 ≤ t272 then (if t272 < (l0.length : Int) then (some (decide (t273 < (((rd_T39 l0 t272).f4).length : Int)))) else (none)) else (none)) else (some false)) else (some false)) = some r := by rw [if_pos rfl] at H; exact H
      clear H
      have H := H1
      clear H1
      by_cases c182 : (t269.length : Int) = 0
      ·rw [if_pos c182] at H
       have c182b0 : ((t269.length : Int) == 0) = true := beq_iff_eq.mpr c182
       have c182b1 : ((t269.length : Int) != 0) = false := bne_eq_false_iff_eq.mpr c182
       clear c182
       by_cases c183 : t273 ≥ 0
       ·rw [if_pos c183] at H
        have c183b0 : decide (0 ≤ t273) = true := decide_eq_true c183
        clear c183
        by_cases c184 : 0 ≤ t272
        ·rw [if_pos c184] at H
         have c184b0 : decide (0 ≤ t272) = true := decide_eq_true c184
         clear c184
         by_cases c185 : t272 < (l0.length : Int)
         ·rw [if_pos c185] at H
          have c185b0 : decide (t272 < (l0.length : Int)) = true := decide_eq_true c185
          clear c185
          obtain rfl := Option.some.inj H
          go_enter Try.func5, Try.ntmps5
          try go_wp2_with (first | ((with_reducible refine gate_dst (N := 17) rfl ?_); (with_reducible refine gate_callee (f := 6) rfl ?_); refine goesL_ (some 17) rfl rfl Try.func6 (by kernel_rfl) rfl #[] rfl (by (try simp only [List.map_toArray, List.map_cons, List.map_nil]); first | done | rfl | (simp only [List.length_drop, List.length_take]; rfl)) ?_; (with_reducible refine (curtilagelaw15_awake.calls  true _ A4.out).mono ?_); rintro e w186 ⟨rfl, hb⟩; refine ⟨_, rfl, ?_⟩; have n0_ := am (below_step (uc HB.out) hb); revert n0_; clear HB; intro HB; (try clear hb); (try clear hb2); (try clear hk); (try clear hi)) | ((with_reducible refine gate_dst (N := 21) rfl ?_); (with_reducible refine gate_callee (f := 7) rfl ?_); refine goesL_ (some 21) rfl rfl Try.func7 (by kernel_rfl) rfl #[.slice A0 l0.length c0, .slice A1 l1.length c1, .slice A2 l2.length c2] rfl (by (try simp only [List.map_toArray, List.map_cons, List.map_nil]); first | done | rfl | (simp only [List.length_drop, List.length_take]; rfl)) ?_; (with_reducible refine (curtilagelaw15_right.calls k _ _ l0 _ _ l1 _ _ l2 true _ ?side1 ?side2 ?side3 ?side4 ?side5 ?side6 A5.out).mono ?_); (case side1 => exact us (Kd.C_below HR0.out HB.out)); (case side2 => exact HC0.out); (case side3 => exact us (Kd.C_below HR1.out HB.out)); (case side4 => exact HC1.out); (case side5 => exact us (Kd.C_below HR2.out HB.out)); (case side6 => exact HC2.out); rintro e w187 ⟨rfl, hb⟩; refine ⟨_, rfl, ?_⟩; have n0_ := am (below_step (uc HB.out) hb); revert n0_; clear HB; intro HB; (try clear hb); (try clear hb2); (try clear hk); (try clear hi)) | ((with_reducible refine gate_dst (N := 29) rfl ?_); (with_reducible refine gate_callee (f := 8) rfl ?_); refine goesL_ (some 29) rfl rfl Try.func8 (by kernel_rfl) rfl #[.slice A0 l0.length c0, .slice A1 l1.length c1, .slice A2 l2.length c2] rfl (by (try simp only [List.map_toArray, List.map_cons, List.map_nil]); first | done | rfl | (simp only [List.length_drop, List.length_take]; rfl)) ?_; (with_reducible refine (plan_Link.calls k _ _ l0 _ _ l1 _ _ l2 t269 t272 t273 t274 t275 t276 _ ?side1 ?side2 ?side3 ?side4 ?side5 ?side6 A7.out).mono ?_); (case side1 => exact us (Kd.C_below HR0.out HB.out)); (case side2 => exact HC0.out); (case side3 => exact us (Kd.C_below HR1.out HB.out)); (case side4 => exact HC1.out); (case side5 => exact us (Kd.C_below HR2.out HB.out)); (case side6 => exact HC2.out); rintro e w188 ⟨v270, rfl, ho0, hb⟩; refine ⟨_, rfl, ?_⟩; have n0_ := am (Kd.R_lower ho0 (below_size (uc HB.out))); have n1_ := am (below_step (uc HB.out) hb); revert n0_ n1_; clear HB; intro HO271 HB; (try clear hb); (try clear hb2); (try clear hk); (try clear hi); (try clear ho0)) | ((with_reducible refine gate_dst (N := 10) rfl ?_); (try (refine gate_guard (by rfl) ?_; dsimp only)); refine box_event ?hg (N := 10) ?hd (cs := #[.int .i64 0, .int .i64 0, .int .i64 0, .int .i64 0]) (t := 28) ?hr ?_; (case hd => rfl); (case hg => rfl); (case hr => first | (go_simp; done) | (go_simp; rfl)); intro gb277 hg w189 hbox hb; have n0_ := am (Kd.R_below (Kd.R_elderB (ua HO271.out) gb277 (Nat.le_of_eq hg.symm)) hb); have n1_ := am (below_step (uc HB.out) hb); have n2_ := am (hbox); have n3_ := am ((by rw [hg]; exact (below_size (uc HB.out)) : w.heap.size ≤ gb277)); have n4_ := am ((by rw [hg]; exact (below_size (uc HB.out)) : w.heap.size ≤ gb277)); revert n0_ n1_ n2_ n3_ n4_; clear HO271 HB; intro HO271 HB BK277 GW277 GE277; clear hb hbox hg; obtain ⟨hcz190_0, hcz190_1, hcz190_2, hcz190_3, hfz190_0, hfz190_1, hfz190_2, hfz190_3⟩ := cells4 BK277.out) | ((with_reducible refine gate_store (t := 28) (p := 10) rfl ?_); refine store_event (t := 28) (p := 10) (v := ?vo_w191) (w1 := ((((w189.setCell ⟨gb277, 0, none⟩ (.int .i64 t272)).setCell ⟨gb277, 1, none⟩ (.int .i64 t273)).setCell ⟨gb277, 2, none⟩ (.int .i64 t274)).setCell ⟨gb277, 3, none⟩ (.int .i64 t275))) ?hg ?ho ?hn ?hr ?_; (case ho => rfl); (case hg => rfl); (case hn => rfl); (case hr => first | (go_simp; done) | (go_simp; rfl)); intro w191 hw; have n0_ : Aside0 (Kd.R k28 28 w191 w.heap.size (fun k_ => k_ ≠ gb277) v270 t269) := ⟨(by rw [hw]; exact (by (with_reducible repeat (first | apply Kd.R_alloc | apply Kd.R_drewN | apply Kd.R_drew)); exact Kd.R_mono (Kd.R_far (p := ⟨gb277, 3, none⟩) (Kd.R_far (p := ⟨gb277, 2, none⟩) (Kd.R_far (p := ⟨gb277, 1, none⟩) (Kd.R_far (p := ⟨gb277, 0, none⟩) (Kd.R_mono HO271.out (fun k_ hk => (⟨hk, hk.2⟩ : _ ∧ k_ ≠ gb277))) (fun _ hk => hk.2) (.int .i64 t272)) (fun _ hk => hk.2) (.int .i64 t273)) (fun _ hk => hk.2) (.int .i64 t274)) (fun _ hk => hk.2) (.int .i64 t275)) (fun _ hk => hk.1.2)))⟩; have n1_ : Aside0 (w191.heap[gb277]? = some (.cells #[.int .i64 t272, .int .i64 t273, .int .i64 t274, .int .i64 t275] 28 (0, 0))) := ⟨(by rw [hw]; exact (by (with_reducible repeat (first | refine blk_drewN ?_ _ | refine blk_drew ?_ | refine blk_alloc ?_ _)); refine blk_put (cs := #[.int .i64 t272, .int .i64 t273, .int .i64 t274, .int .i64 0]) ?_ 3 _ rfl; (with_reducible repeat (first | refine blk_drewN ?_ _ | refine blk_drew ?_ | refine blk_alloc ?_ _)); refine blk_put (cs := #[.int .i64 t272, .int .i64 t273, .int .i64 0, .int .i64 0]) ?_ 2 _ rfl; (with_reducible repeat (first | refine blk_drewN ?_ _ | refine blk_drew ?_ | refine blk_alloc ?_ _)); refine blk_put (cs := #[.int .i64 t272, .int .i64 0, .int .i64 0, .int .i64 0]) ?_ 1 _ rfl; (with_reducible repeat (first | refine blk_drewN ?_ _ | refine blk_drew ?_ | refine blk_alloc ?_ _)); refine blk_put (cs := #[.int .i64 0, .int .i64 0, .int .i64 0, .int .i64 0]) ?_ 0 _ rfl; (with_reducible repeat (first | refine blk_drewN ?_ _ | refine blk_drew ?_ | refine blk_alloc ?_ _)); exact BK277.out))⟩; have n2_ : Aside0 (Below w.heap.size w w191) := ⟨(by rw [hw]; exact (uc HB.out))⟩; revert n0_ n1_ n2_; clear hw HO271 BK277 HB; intro HO271 BK277 HB; obtain ⟨hcz192_0, hcz192_1, hcz192_2, hcz192_3, hfz192_0, hfz192_1, hfz192_2, hfz192_3⟩ := cells4 BK277.out))
          have n0_ := am (Kd.R_drew HO271.out)
          have n1_ := am (blk_drew BK277.out)
          have n2_ := am (below_drew1 HB.out)
          revert n0_ n1_ n2_
          clear HO271 BK277 HB
          intro HO271 BK277 HB
          obtain ⟨Ao194, co194, eo194⟩ := Kd.R_slice HO271.out
          (first | subst eo194 | (injection eo194 with f1_ f2_ f3_; have f4_ := f1_.symm; have f5_ := f3_.symm; clear f1_ f2_ f3_; subst f4_; subst f5_))
          have p278 : 0 ≤ (t272 : Int) := ud
          have q278 : t272 < (l0.length : Int) := ud
          obtain ⟨ad278, A278_1, c278_1, A278_2, c278_2, A278_3, c278_3, A278_4, c278_4, A278_5, c278_5, A278_6, c278_6, e278, hx278_0, hx278_1, hx278_2, hx278_3, hx278_4, hx278_5, hx278_6, hl278_1, hi278_1, hl278_2, hi278_2, hl278_3, hi278_3, hl278_4, hi278_4, hl278_5, hi278_5, hl278_6, hi278_6⟩ := at_T39 HR0.out t272 p278 q278
          have hw278_6 := hx278_6
          have hw278_5 := hx278_5
          have hw278_4 := hx278_4
          have hw278_3 := hx278_3
          have hw278_2 := hx278_2
          have hw278_1 := hx278_1
          have hw278_0 := hx278_0
          cases e278
          replace hx278_0 := bcel HB hx278_0
          replace hx278_1 := bcel HB hx278_1
          replace hx278_2 := bcel HB hx278_2
          replace hx278_3 := bcel HB hx278_3
          replace hx278_4 := bcel HB hx278_4
          replace hx278_5 := bcel HB hx278_5
          replace hx278_6 := bcel HB hx278_6
          have HR278_1 := am hi278_1
          have HC278_1 := am hl278_1
          clear hi278_1 hl278_1
          have HR278_2 := am hi278_2
          have HC278_2 := am hl278_2
          clear hi278_2 hl278_2
          have HR278_3 := am hi278_3
          have HC278_3 := am hl278_3
          clear hi278_3 hl278_3
          have HR278_4 := am hi278_4
          have HC278_4 := am hl278_4
          clear hi278_4 hl278_4
          have HR278_5 := am hi278_5
          have HC278_5 := am hl278_5
          clear hi278_5 hl278_5
          have HR278_6 := am hi278_6
          have HC278_6 := am hl278_6
          clear hi278_6 hl278_6
          replace p278 := eq_true p278
          replace q278 := eq_true q278
          refine start_ (n := 24) (S := fun w' => w'.cell? ⟨gb277, 0, none⟩ = some (.int .i64 t272) ∧ w'.cell? ⟨gb277, 1, none⟩ = some (.int .i64 t273) ∧ w'.cell? ⟨gb277, 2, none⟩ = some (.int .i64 t274) ∧ w'.cell? ⟨gb277, 3, none⟩ = some (.int .i64 t275) ∧ w'.cell? (ad278.add ((t272).toNat * 7)) = some (.string ((rd_T39 l0 t272).f0)) ∧ w'.cell? ⟨(ad278.add ((t272).toNat * 7)).block, (ad278.add ((t272).toNat * 7)).off + 1, none⟩ = some (.slice A278_1 ((rd_T39 l0 t272).f1).length c278_1) ∧ w'.cell? ⟨(ad278.add ((t272).toNat * 7)).block, (ad278.add ((t272).toNat * 7)).off + 2, none⟩ = some (.slice A278_2 ((rd_T39 l0 t272).f2).length c278_2) ∧ w'.cell? ⟨(ad278.add ((t272).toNat * 7)).block, (ad278.add ((t272).toNat * 7)).off + 3, none⟩ = some (.slice A278_3 ((rd_T39 l0 t272).f3).length c278_3) ∧ w'.cell? ⟨(ad278.add ((t272).toNat * 7)).block, (ad278.add ((t272).toNat * 7)).off + 4, none⟩ = some (.slice A278_4 ((rd_T39 l0 t272).f4).length c278_4) ∧ w'.cell? ⟨(ad278.add ((t272).toNat * 7)).block, (ad278.add ((t272).toNat * 7)).off + 5, none⟩ = some (.slice A278_5 ((rd_T39 l0 t272).f5).length c278_5) ∧ w'.cell? ⟨(ad278.add ((t272).toNat * 7)).block, (ad278.add ((t272).toNat * 7)).off + 6, none⟩ = some (.slice A278_6 ((rd_T39 l0 t272).f6).length c278_6)) (ds := []) #[false, false, false, false, false, false, false, false, false, false, false, false, false, false, false, false, false, false, false, false, false, false, false, false] (by kernel_rfl) rfl rfl ⟨(blk_cell BK277.out 0).trans rfl, (blk_cell BK277.out 1).trans rfl, (blk_cell BK277.out 2).trans rfl, (blk_cell BK277.out 3).trans rfl, (bcel HB hw278_0), (bcel HB hw278_1), (bcel HB hw278_2), (bcel HB hw278_3), (bcel HB hw278_4), (bcel HB hw278_5), (bcel HB hw278_6)⟩ (fun hHeld => ?_); refine with_tabW curtilagelaw15_PlanWhole.tab9 curtilagelaw15_PlanWhole.bits9 (fun HT_ HW_ => ?_)
          generalize w191.drew = w193 at HO271 BK277 HB HR278_1 HR278_2 HR278_3 HR278_4 HR278_5 HR278_6 hx278_0 hx278_1 hx278_2 hx278_3 hx278_4 hx278_5 hx278_6 hHeld ⊢
          refine pu 0 45 (bA 24 1) HT_ ?_ ?_ ?_ ?_ ?_; rotate_left; (intro w'; go_simp; with_reducible rfl); rotate_left; (simp only [Act.put, s1, s2, s3, i64_w, i32_w]; rfl)
          refine pu 1 46 (bA 24 3) HT_ ?_ ?_ ?_ ?_ ?_; rotate_left; (intro w'; go_simp; with_reducible rfl); rotate_left; (simp only [Act.put, s1, s2, s3, i64_w, i32_w]; rfl)
          refine pu 2 47 (bA 24 7) HT_ ?_ ?_ ?_ ?_ ?_; rotate_left; (intro w'; go_simp; with_reducible rfl); rotate_left; (simp only [Act.put, s1, s2, s3, i64_w, i32_w]; rfl)
          refine pu 3 48 (bA 24 15) HT_ ?_ ?_ ?_ ?_ ?_; rotate_left; (intro w'; go_simp; with_reducible rfl); rotate_left; (simp only [Act.put, s1, s2, s3, i64_w, i32_w]; rfl)
          refine pu 4 49 (bA 24 31) HT_ ?_ ?_ ?_ ?_ ?_; rotate_left; (intro w'; go_simp; with_reducible rfl); rotate_left; (simp only [Act.put, s1, s2, s3, i64_w, i32_w]; rfl)
          refine pu 5 50 (bA 24 63) HT_ ?_ ?_ ?_ ?_ ?_; rotate_left; (intro w'; go_simp; with_reducible rfl); rotate_left; (simp only [Act.put, s1, s2, s3, i64_w, i32_w]; rfl)
          refine pu 6 51 (bA 24 127) HT_ ?_ ?_ ?_ ?_ ?_; rotate_left; (intro w'; go_simp; with_reducible rfl); rotate_left; (simp only [Act.put, s1, s2, s3, i64_w, i32_w]; rfl)
          refine pu 7 52 (bA 24 255) HT_ ?_ ?_ ?_ ?_ ?_; rotate_left; (intro w'; go_simp; with_reducible rfl); rotate_left; (simp only [Act.put, s1, s2, s3, i64_w, i32_w]; rfl)
          refine ta 8 53 (bA 24 511) HT_ HW_ ?_ ?_ hHeld ?_ ?_ ?_; rotate_left; (rintro w' ⟨s0, s1, s2, s3, s4, s5, s6, s7, s8, s9, s10⟩; go_simp; with_reducible rfl); rotate_left; (simp only [Act.put, s1, s2, s3, i64_w, i32_w]; rfl)
          refine pu 9 54 (bA 24 1023) HT_ ?_ ?_ ?_ ?_ ?_; rotate_left; (intro w'; go_simp; with_reducible rfl); rotate_left; (simp only [Act.put, s1, s2, s3, i64_w, i32_w]; rfl)
          refine pu 10 55 (bA 24 2047) HT_ ?_ ?_ ?_ ?_ ?_; rotate_left; (intro w'; go_simp; with_reducible rfl); rotate_left; (simp only [Act.put, s1, s2, s3, i64_w, i32_w]; rfl)
          refine pu 11 56 (bA 24 4095) HT_ ?_ ?_ ?_ ?_ ?_; rotate_left; (intro w'; go_simp; with_reducible rfl); rotate_left; (simp only [Act.put, s1, s2, s3, i64_w, i32_w]; rfl)
          refine pu 12 57 (bA 24 8191) HT_ ?_ ?_ ?_ ?_ ?_; rotate_left; (intro w'; go_simp; with_reducible rfl); rotate_left; (simp only [Act.put, s1, s2, s3, i64_w, i32_w]; rfl)
          refine pu 14 59 (bA 24 24575) HT_ ?_ ?_ ?_ ?_ ?_; rotate_left; (intro w'; go_simp; with_reducible rfl); rotate_left; (simp only [Act.put, s1, s2, s3, i64_w, i32_w]; rfl)
          refine pu 15 60 (bA 24 57343) HT_ ?_ ?_ ?_ ?_ ?_; rotate_left; (intro w'; go_simp; with_reducible rfl); rotate_left; (simp only [Act.put, s1, s2, s3, i64_w, i32_w]; rfl)
          refine ta 13 58 (bA 24 65535) HT_ HW_ ?_ ?_ hHeld ?_ ?_ ?_; rotate_left; (rintro w' ⟨s0, s1, s2, s3, s4, s5, s6, s7, s8, s9, s10⟩; go_simp; with_reducible rfl); rotate_left; (simp only [Act.put, s1, s2, s3, i64_w, i32_w]; rfl)
          refine ta 16 61 (bA 24 131071) HT_ HW_ ?_ ?_ hHeld ?_ ?_ ?_; rotate_left; (rintro w' ⟨s0, s1, s2, s3, s4, s5, s6, s7, s8, s9, s10⟩; go_simp; with_reducible rfl); rotate_left; (simp only [Act.put, s1, s2, s3, i64_w, i32_w]; rfl)
          refine pu 17 62 (bA 24 262143) HT_ ?_ ?_ ?_ ?_ ?_; rotate_left; (intro w'; go_simp; with_reducible rfl); rotate_left; (simp only [Act.put, s1, s2, s3, i64_w, i32_w]; rfl)
          refine pu 18 63 (bA 24 524287) HT_ ?_ ?_ ?_ ?_ ?_; rotate_left; (intro w'; go_simp; with_reducible rfl); rotate_left; (simp only [Act.put, s1, s2, s3, i64_w, i32_w]; rfl)
          refine ta 19 64 (bA 24 1048575) HT_ HW_ ?_ ?_ hHeld ?_ ?_ ?_; rotate_left; (rintro w' ⟨s0, s1, s2, s3, s4, s5, s6, s7, s8, s9, s10⟩; go_simp; with_reducible rfl); rotate_left; (simp only [Act.put, s1, s2, s3, i64_w, i32_w]; rfl)
          refine pu 20 65 (bA 24 2097151) HT_ ?_ ?_ ?_ ?_ ?_; rotate_left; (intro w'; go_simp; with_reducible rfl); rotate_left; (simp only [Act.put, s1, s2, s3, i64_w, i32_w]; rfl)
          refine pu 21 66 (bA 24 4194303) HT_ ?_ ?_ ?_ ?_ ?_; rotate_left; (intro w'; go_simp; with_reducible rfl); rotate_left; (simp only [Act.put, s1, s2, s3, i64_w, i32_w]; rfl)
          refine pu 22 67 (bA 24 8388607) HT_ ?_ ?_ ?_ ?_ ?_; rotate_left; (intro w'; go_simp; with_reducible rfl); rotate_left; (simp only [Act.put, s1, s2, s3, i64_w, i32_w]; rfl)
          refine pu 23 6 (bA 24 16777215) HT_ ?_ ?_ ?_ ?_ ?_; rotate_left; (intro w'; go_simp; with_reducible rfl); rotate_left; (simp only [Act.put, s1, s2, s3, i64_w, i32_w]; rfl)
          refine done_ (done_of HT_.out (by kernel_rfl)) ?_
          try go_wp2
          go_ret
          exact ⟨by first | rfl | (simp [errW_none, errW_some] <;> rfl) | (simp [*, errW_none, errW_some] <;> rfl), by repeat (first | (with_reducible first | exact HB.out | apply below_alloc | apply pw_below_drewN | apply below_drew1 | refine below_set ?_ GE277.out) | exact HB.out)⟩
         ·rw [if_neg c185] at H
          exact absurd H (by simp)
        ·rw [if_neg c184] at H
         exact absurd H (by simp)
       ·rw [if_neg c183] at H
        have c183b0 : decide (0 ≤ t273) = false := decide_eq_false c183
        clear c183
        exact absurd ((Option.some.inj H).trans HT.out) (by decide)
      ·rw [if_neg c182] at H
       have c182b0 : ((t269.length : Int) == 0) = false := beq_eq_false_iff_ne.mpr c182
       have c182b1 : ((t269.length : Int) != 0) = true := bne_iff_ne.mpr c182
       have c182b2 : ¬ (t269 = []) := fun h_ => c182 (by rw [h_]; rfl)
       exact absurd ((Option.some.inj H).trans HT.out) (by decide)
     ·replace c181 := Bool.eq_false_iff.mpr c181
      subst c181
      have H1 : (some false) = some r := by rw [if_neg (show ¬ (false = true) by decide)] at H; exact H
      clear H
      have H := H1
      clear H1
      exact absurd ((Option.some.inj H).trans HT.out) (by decide)
 ·replace c6 := Bool.eq_false_iff.mpr c6
  subst c6
  have H1 : (some t267) = some r := by rw [if_neg (show ¬ (false = true) by decide)] at H; exact H
  clear H
  have H := H1
  clear H1
  obtain rfl := Option.some.inj H
  go_enter Try.func5, Try.ntmps5
  go_wp2_with (first | ((with_reducible refine gate_dst (N := 17) rfl ?_); (with_reducible refine gate_callee (f := 6) rfl ?_); refine goesL_ (some 17) rfl rfl Try.func6 (by kernel_rfl) rfl #[] rfl (by (try simp only [List.map_toArray, List.map_cons, List.map_nil]); first | done | rfl | (simp only [List.length_drop, List.length_take]; rfl)) ?_; (with_reducible refine (curtilagelaw15_awake.calls  t267 _ A4.out).mono ?_); rintro e w221 ⟨rfl, hb⟩; refine ⟨_, rfl, ?_⟩; have n0_ := am (below_step (uc HB.out) hb); revert n0_; clear HB; intro HB; (try clear hb); (try clear hb2); (try clear hk); (try clear hi)) | ((with_reducible refine gate_dst (N := 21) rfl ?_); (with_reducible refine gate_callee (f := 7) rfl ?_); refine goesL_ (some 21) rfl rfl Try.func7 (by kernel_rfl) rfl #[.slice A0 l0.length c0, .slice A1 l1.length c1, .slice A2 l2.length c2] rfl (by (try simp only [List.map_toArray, List.map_cons, List.map_nil]); first | done | rfl | (simp only [List.length_drop, List.length_take]; rfl)) ?_; (with_reducible refine (curtilagelaw15_right.calls k _ _ l0 _ _ l1 _ _ l2 false _ ?side1 ?side2 ?side3 ?side4 ?side5 ?side6 A5.out).mono ?_); (case side1 => exact us (Kd.C_below HR0.out HB.out)); (case side2 => exact HC0.out); (case side3 => exact us (Kd.C_below HR1.out HB.out)); (case side4 => exact HC1.out); (case side5 => exact us (Kd.C_below HR2.out HB.out)); (case side6 => exact HC2.out); rintro e w222 ⟨rfl, hb⟩; refine ⟨_, rfl, ?_⟩; have n0_ := am (below_step (uc HB.out) hb); revert n0_; clear HB; intro HB; (try clear hb); (try clear hb2); (try clear hk); (try clear hi)))
  go_ret
  exact ⟨by first | rfl | (simp [errW_none, errW_some] <;> rfl) | (simp [*, errW_none, errW_some] <;> rfl), by repeat (first | (with_reducible first | exact HB.out | apply below_alloc | apply pw_below_drewN | apply below_drew1) | exact HB.out)⟩

end Go.Proofs.Ytoakeildgpeffaa.P
