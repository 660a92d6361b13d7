/- What functions of the program, and of its laws, give, each proved of its code by a walk; no condition. -/
import Derived.Test.YtlbfeklpncoccaaKTableLessPx0
import Derived.Test.YtlbfeklpncoccaaKTableLessPx1
import Derived.Test.YtlbfeklpncoccaaKTableLessPy0
import Derived.Test.YtlbfeklpncoccaaKTableLessPx7
import Derived.Test.YtlbfeklpncoccaaKTableLessPx17
import Derived.Test.YtlbfeklpncoccaaKTableLessPx22
import Derived.Test.YtlbfeklpncoccaaKTableLessSq
import Derived.Test.YtlbfeklpncoccaaKTableLessUsh
import Derived.Test.YtlbfeklpncoccaaKTableLessUs4
namespace Go.Proofs.Ytlbfeklpncoccaa.P
open Go.RowKit Go.Proofs.YtlbfeklpncoccaaW.PrintWords Go.Proofs.YtlbfeklpncoccaaW.PrintLast Go.Proofs.YtlbfeklpncoccaaW.PrintMore
attribute [local go_sem] max2_int min2_int max_two min_two max_three min_three max_four min_four   -- for this text's walks alone
set_option linter.unusedVariables false
set_option linter.unusedSimpArgs false

mutual
def curtilagelaw18_TableLess.l0 : Nat → List (S28) → List Int → List Int → List (S44) → Bool → Int → Option (Bool)
  | 0, _, _, _, _, _, _ => none
  | k + 1, x0, x1, x2, x3, x9, x11 => if x11 < (x3.length : Int) then (if 0 ≤ x11 then ((table_Slot.f k x0 x1 x2 ((rd_T44 x3 x11).f0) ((rd_T44 x3 x11).f1) ((rd_T44 x3 x11).f2) ((rd_T44 x3 x11).f3)).bind fun bt646 => (if (bt646.1.length : Int) = 0 then (curtilagelaw18_TableLess.j1 k x0 x1 x2 x3 x9 x11 bt646.1 true ((rd_T44 x3 x11).f0) ((rd_T44 x3 x11).f1) ((rd_T44 x3 x11).f2) ((rd_T44 x3 x11).f3)) else (curtilagelaw18_TableLess.j1 k x0 x1 x2 x3 x9 x11 bt646.1 (decide ((bt646.1.length : Int) > 2)) ((rd_T44 x3 x11).f0) ((rd_T44 x3 x11).f1) ((rd_T44 x3 x11).f2) ((rd_T44 x3 x11).f3)))) else (none)) else (some x9)
def curtilagelaw18_TableLess.j1 : Nat → List (S28) → List Int → List Int → List (S44) → Bool → Int → List (S37) → Bool → Int → Int → Int → Int → Option (Bool)
  | 0, _, _, _, _, _, _, _, _, _, _, _, _ => none
  | k + 1, x0, x1, x2, x3, x9, x11, x13, x51, x646000, x646001, x646002, x646003 => if x51 = true then (some false) else (curtilagelaw18_TableLess.l1 k x0 x1 x2 x3 x9 x11 x13 0 x646000 x646001 x646002 x646003)
def curtilagelaw18_TableLess.l1 : Nat → List (S28) → List Int → List Int → List (S44) → Bool → Int → List (S37) → Int → Int → Int → Int → Int → Option (Bool)
  | 0, _, _, _, _, _, _, _, _, _, _, _, _ => none
  | k + 1, x0, x1, x2, x3, x9, x11, x13, x15, x646000, x646001, x646002, x646003 => if x15 < (x13.length : Int) then (if 0 ≤ x15 then (if (rd_T37 x13 x15).f5 = true then (if (Go.bits .and .i64 ((rd_T37 x13 x15).f3) 96) = 0 then (curtilagelaw18_TableLess.j3 k x0 x1 x2 x3 x9 x11 x13 x15 ((Go.bits .and .i64 ((rd_T37 x13 x15).f3) 6) == 6) x646000 x646001 x646002 x646003 ((rd_T37 x13 x15).f0) ((rd_T37 x13 x15).f1) ((rd_T37 x13 x15).f2) ((rd_T37 x13 x15).f3) ((rd_T37 x13 x15).f4) ((rd_T37 x13 x15).f5)) else (curtilagelaw18_TableLess.j3 k x0 x1 x2 x3 x9 x11 x13 x15 true x646000 x646001 x646002 x646003 ((rd_T37 x13 x15).f0) ((rd_T37 x13 x15).f1) ((rd_T37 x13 x15).f2) ((rd_T37 x13 x15).f3) ((rd_T37 x13 x15).f4) ((rd_T37 x13 x15).f5))) else (curtilagelaw18_TableLess.j3 k x0 x1 x2 x3 x9 x11 x13 x15 false x646000 x646001 x646002 x646003 ((rd_T37 x13 x15).f0) ((rd_T37 x13 x15).f1) ((rd_T37 x13 x15).f2) ((rd_T37 x13 x15).f3) ((rd_T37 x13 x15).f4) ((rd_T37 x13 x15).f5))) else (none)) else (curtilagelaw18_TableLess.l0 k x0 x1 x2 x3 x9 (wrap64 (x11 + 1)))
def curtilagelaw18_TableLess.j3 : Nat → List (S28) → List Int → List Int → List (S44) → Bool → Int → List (S37) → Int → Bool → Int → Int → Int → Int → Int → Int → Int → Int → Int → Bool → Option (Bool)
  | 0, _, _, _, _, _, _, _, _, _, _, _, _, _, _, _, _, _, _, _ => none
  | k + 1, x0, x1, x2, x3, x9, x11, x13, x15, x75, x646000, x646001, x646002, x646003, x652000, x652001, x652002, x652003, x652004, x652005 => if x75 = true then (some false) else (if x646002 < 0 then (curtilagelaw18_TableLess.j4 k x0 x1 x2 x3 x9 x11 x13 x15 x652005 x646000 x646001 x646002 x646003 x652000 x652001 x652002 x652003 x652004 x652005) else (curtilagelaw18_TableLess.j4 k x0 x1 x2 x3 x9 x11 x13 x15 false x646000 x646001 x646002 x646003 x652000 x652001 x652002 x652003 x652004 x652005))
def curtilagelaw18_TableLess.j4 : Nat → List (S28) → List Int → List Int → List (S44) → Bool → Int → List (S37) → Int → Bool → Int → Int → Int → Int → Int → Int → Int → Int → Int → Bool → Option (Bool)
  | 0, _, _, _, _, _, _, _, _, _, _, _, _, _, _, _, _, _, _, _ => none
  | k + 1, x0, x1, x2, x3, x9, x11, x13, x15, x82, x646000, x646001, x646002, x646003, x652000, x652001, x652002, x652003, x652004, x652005 => if x82 = true then (some false) else (if x646002 ≥ 0 then (if x652005 = true then (if 0 ≤ x646002 then (if x646002 < (x0.length : Int) then (if 0 ≤ x646003 then (if x646003 < (((rd_T28 x0 x646002).f3).length : Int) then (if ((rd_T35 ((rd_T28 x0 x646002).f3) x646003).f4) = 1 then (if x646002 < (x2.length : Int) then (if x652004 = (rd x2 x646002) then (curtilagelaw18_TableLess.j5 k x0 x1 x2 x3 x9 x11 x13 x15 (((Go.bits .and .i64 x652003 4) != 0) != (x15 == 0)) x646000 x646001 x646002 x646003 x652000 x652001 x652002 x652003 x652004 x652005) else (curtilagelaw18_TableLess.j5 k x0 x1 x2 x3 x9 x11 x13 x15 true x646000 x646001 x646002 x646003 x652000 x652001 x652002 x652003 x652004 x652005)) else (none)) else (curtilagelaw18_TableLess.j5 k x0 x1 x2 x3 x9 x11 x13 x15 false x646000 x646001 x646002 x646003 x652000 x652001 x652002 x652003 x652004 x652005)) else (none)) else (none)) else (none)) else (none)) else (curtilagelaw18_TableLess.j5 k x0 x1 x2 x3 x9 x11 x13 x15 false x646000 x646001 x646002 x646003 x652000 x652001 x652002 x652003 x652004 x652005)) else (curtilagelaw18_TableLess.j5 k x0 x1 x2 x3 x9 x11 x13 x15 false x646000 x646001 x646002 x646003 x652000 x652001 x652002 x652003 x652004 x652005))
def curtilagelaw18_TableLess.j5 : Nat → List (S28) → List Int → List Int → List (S44) → Bool → Int → List (S37) → Int → Bool → Int → Int → Int → Int → Int → Int → Int → Int → Int → Bool → Option (Bool)
  | 0, _, _, _, _, _, _, _, _, _, _, _, _, _, _, _, _, _, _, _ => none
  | k + 1, x0, x1, x2, x3, x9, x11, x13, x15, x122, x646000, x646001, x646002, x646003, x652000, x652001, x652002, x652003, x652004, x652005 => if x122 = true then (some false) else (if x646002 ≥ 0 then (if x652005 = true then (if 0 ≤ x646002 then (if x646002 < (x0.length : Int) then (if 0 ≤ x646003 then (if x646003 < (((rd_T28 x0 x646002).f3).length : Int) then (if ((rd_T35 ((rd_T28 x0 x646002).f3) x646003).f4) = 2 then (if x652004 = (-1) then (if (IntKind.u64.wrap (x652001 - x652000)) = ((rd_T35 ((rd_T28 x0 x646002).f3) x646003).f3) then (curtilagelaw18_TableLess.l1 k x0 x1 x2 x3 x9 x11 x13 (wrap64 (x15 + 1)) x646000 x646001 x646002 x646003) else (some false)) else (some false)) else (curtilagelaw18_TableLess.l1 k x0 x1 x2 x3 x9 x11 x13 (wrap64 (x15 + 1)) x646000 x646001 x646002 x646003)) else (none)) else (none)) else (none)) else (none)) else (curtilagelaw18_TableLess.l1 k x0 x1 x2 x3 x9 x11 x13 (wrap64 (x15 + 1)) x646000 x646001 x646002 x646003)) else (curtilagelaw18_TableLess.l1 k x0 x1 x2 x3 x9 x11 x13 (wrap64 (x15 + 1)) x646000 x646001 x646002 x646003))
end
def curtilagelaw18_TableLess.f (k : Nat) (l0 : List (S28)) (l1 : List Int) (l2 : List Int) (l3 : List (S44)) : Option (Bool) := (curtilagelaw18_awake.f k).bind fun t642 => ((curtilageref18_Right.f k l0 l1 l2 l3).bind fun t643 => (if t643 = true then (curtilagelaw18_TableLess.l0 k l0 l1 l2 l3 t642 0) else (some t642)))
theorem curtilagelaw18_TableLess.mono_l : ∀ k, (∀ y0 y1 y2 y3 y4 y5, LeO (curtilagelaw18_TableLess.l0 k y0 y1 y2 y3 y4 y5) (curtilagelaw18_TableLess.l0 (k + 1) y0 y1 y2 y3 y4 y5)) ∧ (∀ y0 y1 y2 y3 y4 y5 y6 y7 y8 y9 y10 y11, LeO (curtilagelaw18_TableLess.j1 k y0 y1 y2 y3 y4 y5 y6 y7 y8 y9 y10 y11) (curtilagelaw18_TableLess.j1 (k + 1) y0 y1 y2 y3 y4 y5 y6 y7 y8 y9 y10 y11)) ∧ (∀ y0 y1 y2 y3 y4 y5 y6 y7 y8 y9 y10 y11, LeO (curtilagelaw18_TableLess.l1 k y0 y1 y2 y3 y4 y5 y6 y7 y8 y9 y10 y11) (curtilagelaw18_TableLess.l1 (k + 1) y0 y1 y2 y3 y4 y5 y6 y7 y8 y9 y10 y11)) ∧ (∀ y0 y1 y2 y3 y4 y5 y6 y7 y8 y9 y10 y11 y12 y13 y14 y15 y16 y17 y18, LeO (curtilagelaw18_TableLess.j3 k y0 y1 y2 y3 y4 y5 y6 y7 y8 y9 y10 y11 y12 y13 y14 y15 y16 y17 y18) (curtilagelaw18_TableLess.j3 (k + 1) y0 y1 y2 y3 y4 y5 y6 y7 y8 y9 y10 y11 y12 y13 y14 y15 y16 y17 y18)) ∧ (∀ y0 y1 y2 y3 y4 y5 y6 y7 y8 y9 y10 y11 y12 y13 y14 y15 y16 y17 y18, LeO (curtilagelaw18_TableLess.j4 k y0 y1 y2 y3 y4 y5 y6 y7 y8 y9 y10 y11 y12 y13 y14 y15 y16 y17 y18) (curtilagelaw18_TableLess.j4 (k + 1) y0 y1 y2 y3 y4 y5 y6 y7 y8 y9 y10 y11 y12 y13 y14 y15 y16 y17 y18)) ∧ (∀ y0 y1 y2 y3 y4 y5 y6 y7 y8 y9 y10 y11 y12 y13 y14 y15 y16 y17 y18, LeO (curtilagelaw18_TableLess.j5 k y0 y1 y2 y3 y4 y5 y6 y7 y8 y9 y10 y11 y12 y13 y14 y15 y16 y17 y18) (curtilagelaw18_TableLess.j5 (k + 1) y0 y1 y2 y3 y4 y5 y6 y7 y8 y9 y10 y11 y12 y13 y14 y15 y16 y17 y18))
  | 0 => ⟨fun _ _ _ _ _ _ r h => by simp [curtilagelaw18_TableLess.l0] at h, fun _ _ _ _ _ _ _ _ _ _ _ _ r h => by simp [curtilagelaw18_TableLess.j1] at h, fun _ _ _ _ _ _ _ _ _ _ _ _ r h => by simp [curtilagelaw18_TableLess.l1] at h, fun _ _ _ _ _ _ _ _ _ _ _ _ _ _ _ _ _ _ _ r h => by simp [curtilagelaw18_TableLess.j3] at h, fun _ _ _ _ _ _ _ _ _ _ _ _ _ _ _ _ _ _ _ r h => by simp [curtilagelaw18_TableLess.j4] at h, fun _ _ _ _ _ _ _ _ _ _ _ _ _ _ _ _ _ _ _ r h => by simp [curtilagelaw18_TableLess.j5] at h⟩
  | k + 1 => by
    obtain ⟨ih0, ih1, ih2, ih3, ih4, ih5⟩ := curtilagelaw18_TableLess.mono_l k
    refine ⟨?_, ?_, ?_, ?_, ?_, ?_⟩
    · intro y0 y1 y2 y3 y4 y5
      unfold curtilagelaw18_TableLess.l0
      repeat' first
      | (with_reducible exact ih0 _ _ _ _ _ _)
      | (with_reducible exact ih1 _ _ _ _ _ _ _ _ _ _ _ _)
      | (with_reducible exact ih2 _ _ _ _ _ _ _ _ _ _ _ _)
      | (with_reducible exact ih3 _ _ _ _ _ _ _ _ _ _ _ _ _ _ _ _ _ _ _)
      | (with_reducible exact ih4 _ _ _ _ _ _ _ _ _ _ _ _ _ _ _ _ _ _ _)
      | (with_reducible exact ih5 _ _ _ _ _ _ _ _ _ _ _ _ _ _ _ _ _ _ _)
      | (with_reducible exact curtilagelaw18_awake.mono _)
      | (with_reducible exact curtilageref18_Right.mono _ _ _ _ _)
      | (with_reducible exact table_Slot.mono _ _ _ _ _ _ _ _)
      | (with_reducible exact LeO.refl _)
      | (with_reducible exact LeO.none _)
      | (with_reducible refine LeO.ite ?_ ?_)
      | (with_reducible refine LeO.bind ?_ (fun _ => ?_))
      | exact ih0 _ _ _ _ _ _
      | exact ih1 _ _ _ _ _ _ _ _ _ _ _ _
      | exact ih2 _ _ _ _ _ _ _ _ _ _ _ _
      | exact ih3 _ _ _ _ _ _ _ _ _ _ _ _ _ _ _ _ _ _ _
      | exact ih4 _ _ _ _ _ _ _ _ _ _ _ _ _ _ _ _ _ _ _
      | exact ih5 _ _ _ _ _ _ _ _ _ _ _ _ _ _ _ _ _ _ _
      | exact curtilagelaw18_awake.mono _
      | exact curtilageref18_Right.mono _ _ _ _ _
      | exact table_Slot.mono _ _ _ _ _ _ _ _
      | exact LeO.none _
      | refine LeO.ite ?_ ?_
      | refine LeO.bind ?_ (fun _ => ?_)
    · intro y0 y1 y2 y3 y4 y5 y6 y7 y8 y9 y10 y11
      unfold curtilagelaw18_TableLess.j1
      repeat' first
      | (with_reducible exact ih0 _ _ _ _ _ _)
      | (with_reducible exact ih1 _ _ _ _ _ _ _ _ _ _ _ _)
      | (with_reducible exact ih2 _ _ _ _ _ _ _ _ _ _ _ _)
      | (with_reducible exact ih3 _ _ _ _ _ _ _ _ _ _ _ _ _ _ _ _ _ _ _)
      | (with_reducible exact ih4 _ _ _ _ _ _ _ _ _ _ _ _ _ _ _ _ _ _ _)
      | (with_reducible exact ih5 _ _ _ _ _ _ _ _ _ _ _ _ _ _ _ _ _ _ _)
      | (with_reducible exact curtilagelaw18_awake.mono _)
      | (with_reducible exact curtilageref18_Right.mono _ _ _ _ _)
      | (with_reducible exact table_Slot.mono _ _ _ _ _ _ _ _)
      | (with_reducible exact LeO.refl _)
      | (with_reducible exact LeO.none _)
      | (with_reducible refine LeO.ite ?_ ?_)
      | (with_reducible refine LeO.bind ?_ (fun _ => ?_))
      | exact ih0 _ _ _ _ _ _
      | exact ih1 _ _ _ _ _ _ _ _ _ _ _ _
      | exact ih2 _ _ _ _ _ _ _ _ _ _ _ _
      | exact ih3 _ _ _ _ _ _ _ _ _ _ _ _ _ _ _ _ _ _ _
      | exact ih4 _ _ _ _ _ _ _ _ _ _ _ _ _ _ _ _ _ _ _
      | exact ih5 _ _ _ _ _ _ _ _ _ _ _ _ _ _ _ _ _ _ _
      | exact curtilagelaw18_awake.mono _
      | exact curtilageref18_Right.mono _ _ _ _ _
      | exact table_Slot.mono _ _ _ _ _ _ _ _
      | exact LeO.none _
      | refine LeO.ite ?_ ?_
      | refine LeO.bind ?_ (fun _ => ?_)
    · intro y0 y1 y2 y3 y4 y5 y6 y7 y8 y9 y10 y11
      unfold curtilagelaw18_TableLess.l1
      repeat' first
      | (with_reducible exact ih0 _ _ _ _ _ _)
      | (with_reducible exact ih1 _ _ _ _ _ _ _ _ _ _ _ _)
      | (with_reducible exact ih2 _ _ _ _ _ _ _ _ _ _ _ _)
      | (with_reducible exact ih3 _ _ _ _ _ _ _ _ _ _ _ _ _ _ _ _ _ _ _)
      | (with_reducible exact ih4 _ _ _ _ _ _ _ _ _ _ _ _ _ _ _ _ _ _ _)
      | (with_reducible exact ih5 _ _ _ _ _ _ _ _ _ _ _ _ _ _ _ _ _ _ _)
      | (with_reducible exact curtilagelaw18_awake.mono _)
      | (with_reducible exact curtilageref18_Right.mono _ _ _ _ _)
      | (with_reducible exact table_Slot.mono _ _ _ _ _ _ _ _)
      | (with_reducible exact LeO.refl _)
      | (with_reducible exact LeO.none _)
      | (with_reducible refine LeO.ite ?_ ?_)
      | (with_reducible refine LeO.bind ?_ (fun _ => ?_))
      | exact ih0 _ _ _ _ _ _
      | exact ih1 _ _ _ _ _ _ _ _ _ _ _ _
      | exact ih2 _ _ _ _ _ _ _ _ _ _ _ _
      | exact ih3 _ _ _ _ _ _ _ _ _ _ _ _ _ _ _ _ _ _ _
      | exact ih4 _ _ _ _ _ _ _ _ _ _ _ _ _ _ _ _ _ _ _
      | exact ih5 _ _ _ _ _ _ _ _ _ _ _ _ _ _ _ _ _ _ _
      | exact curtilagelaw18_awake.mono _
      | exact curtilageref18_Right.mono _ _ _ _ _
      | exact table_Slot.mono _ _ _ _ _ _ _ _
      | exact LeO.none _
      | refine LeO.ite ?_ ?_
      | refine LeO.bind ?_ (fun _ => ?_)
    · intro y0 y1 y2 y3 y4 y5 y6 y7 y8 y9 y10 y11 y12 y13 y14 y15 y16 y17 y18
      unfold curtilagelaw18_TableLess.j3
      repeat' first
      | (with_reducible exact ih0 _ _ _ _ _ _)
      | (with_reducible exact ih1 _ _ _ _ _ _ _ _ _ _ _ _)
      | (with_reducible exact ih2 _ _ _ _ _ _ _ _ _ _ _ _)
      | (with_reducible exact ih3 _ _ _ _ _ _ _ _ _ _ _ _ _ _ _ _ _ _ _)
      | (with_reducible exact ih4 _ _ _ _ _ _ _ _ _ _ _ _ _ _ _ _ _ _ _)
      | (with_reducible exact ih5 _ _ _ _ _ _ _ _ _ _ _ _ _ _ _ _ _ _ _)
      | (with_reducible exact curtilagelaw18_awake.mono _)
      | (with_reducible exact curtilageref18_Right.mono _ _ _ _ _)
      | (with_reducible exact table_Slot.mono _ _ _ _ _ _ _ _)
      | (with_reducible exact LeO.refl _)
      | (with_reducible exact LeO.none _)
      | (with_reducible refine LeO.ite ?_ ?_)
      | (with_reducible refine LeO.bind ?_ (fun _ => ?_))
      | exact ih0 _ _ _ _ _ _
      | exact ih1 _ _ _ _ _ _ _ _ _ _ _ _
      | exact ih2 _ _ _ _ _ _ _ _ _ _ _ _
      | exact ih3 _ _ _ _ _ _ _ _ _ _ _ _ _ _ _ _ _ _ _
      | exact ih4 _ _ _ _ _ _ _ _ _ _ _ _ _ _ _ _ _ _ _
      | exact ih5 _ _ _ _ _ _ _ _ _ _ _ _ _ _ _ _ _ _ _
      | exact curtilagelaw18_awake.mono _
      | exact curtilageref18_Right.mono _ _ _ _ _
      | exact table_Slot.mono _ _ _ _ _ _ _ _
      | exact LeO.none _
      | refine LeO.ite ?_ ?_
      | refine LeO.bind ?_ (fun _ => ?_)
    · intro y0 y1 y2 y3 y4 y5 y6 y7 y8 y9 y10 y11 y12 y13 y14 y15 y16 y17 y18
      unfold curtilagelaw18_TableLess.j4
      repeat' first
      | (with_reducible exact ih0 _ _ _ _ _ _)
      | (with_reducible exact ih1 _ _ _ _ _ _ _ _ _ _ _ _)
      | (with_reducible exact ih2 _ _ _ _ _ _ _ _ _ _ _ _)
      | (with_reducible exact ih3 _ _ _ _ _ _ _ _ _ _ _ _ _ _ _ _ _ _ _)
      | (with_reducible exact ih4 _ _ _ _ _ _ _ _ _ _ _ _ _ _ _ _ _ _ _)
      | (with_reducible exact ih5 _ _ _ _ _ _ _ _ _ _ _ _ _ _ _ _ _ _ _)
      | (with_reducible exact curtilagelaw18_awake.mono _)
      | (with_reducible exact curtilageref18_Right.mono _ _ _ _ _)
      | (with_reducible exact table_Slot.mono _ _ _ _ _ _ _ _)
      | (with_reducible exact LeO.refl _)
      | (with_reducible exact LeO.none _)
      | (with_reducible refine LeO.ite ?_ ?_)
      | (with_reducible refine LeO.bind ?_ (fun _ => ?_))
      | exact ih0 _ _ _ _ _ _
      | exact ih1 _ _ _ _ _ _ _ _ _ _ _ _
      | exact ih2 _ _ _ _ _ _ _ _ _ _ _ _
      | exact ih3 _ _ _ _ _ _ _ _ _ _ _ _ _ _ _ _ _ _ _
      | exact ih4 _ _ _ _ _ _ _ _ _ _ _ _ _ _ _ _ _ _ _
      | exact ih5 _ _ _ _ _ _ _ _ _ _ _ _ _ _ _ _ _ _ _
      | exact curtilagelaw18_awake.mono _
      | exact curtilageref18_Right.mono _ _ _ _ _
      | exact table_Slot.mono _ _ _ _ _ _ _ _
      | exact LeO.none _
      | refine LeO.ite ?_ ?_
      | refine LeO.bind ?_ (fun _ => ?_)
    · intro y0 y1 y2 y3 y4 y5 y6 y7 y8 y9 y10 y11 y12 y13 y14 y15 y16 y17 y18
      unfold curtilagelaw18_TableLess.j5
      repeat' first
      | (with_reducible exact ih0 _ _ _ _ _ _)
      | (with_reducible exact ih1 _ _ _ _ _ _ _ _ _ _ _ _)
      | (with_reducible exact ih2 _ _ _ _ _ _ _ _ _ _ _ _)
      | (with_reducible exact ih3 _ _ _ _ _ _ _ _ _ _ _ _ _ _ _ _ _ _ _)
      | (with_reducible exact ih4 _ _ _ _ _ _ _ _ _ _ _ _ _ _ _ _ _ _ _)
      | (with_reducible exact ih5 _ _ _ _ _ _ _ _ _ _ _ _ _ _ _ _ _ _ _)
      | (with_reducible exact curtilagelaw18_awake.mono _)
      | (with_reducible exact curtilageref18_Right.mono _ _ _ _ _)
      | (with_reducible exact table_Slot.mono _ _ _ _ _ _ _ _)
      | (with_reducible exact LeO.refl _)
      | (with_reducible exact LeO.none _)
      | (with_reducible refine LeO.ite ?_ ?_)
      | (with_reducible refine LeO.bind ?_ (fun _ => ?_))
      | exact ih0 _ _ _ _ _ _
      | exact ih1 _ _ _ _ _ _ _ _ _ _ _ _
      | exact ih2 _ _ _ _ _ _ _ _ _ _ _ _
      | exact ih3 _ _ _ _ _ _ _ _ _ _ _ _ _ _ _ _ _ _ _
      | exact ih4 _ _ _ _ _ _ _ _ _ _ _ _ _ _ _ _ _ _ _
      | exact ih5 _ _ _ _ _ _ _ _ _ _ _ _ _ _ _ _ _ _ _
      | exact curtilagelaw18_awake.mono _
      | exact curtilageref18_Right.mono _ _ _ _ _
      | exact table_Slot.mono _ _ _ _ _ _ _ _
      | exact LeO.none _
      | refine LeO.ite ?_ ?_
      | refine LeO.bind ?_ (fun _ => ?_)
theorem curtilagelaw18_TableLess.mono : ∀ a0 a1 a2 a3 k, LeO (curtilagelaw18_TableLess.f k a0 a1 a2 a3) (curtilagelaw18_TableLess.f (k + 1) a0 a1 a2 a3) := by
  intro a0 a1 a2 a3 k
  obtain ⟨ih0, ih1, ih2, ih3, ih4, ih5⟩ := curtilagelaw18_TableLess.mono_l k
  unfold curtilagelaw18_TableLess.f
  repeat' first
      | (with_reducible exact ih0 _ _ _ _ _ _)
      | (with_reducible exact ih1 _ _ _ _ _ _ _ _ _ _ _ _)
      | (with_reducible exact ih2 _ _ _ _ _ _ _ _ _ _ _ _)
      | (with_reducible exact ih3 _ _ _ _ _ _ _ _ _ _ _ _ _ _ _ _ _ _ _)
      | (with_reducible exact ih4 _ _ _ _ _ _ _ _ _ _ _ _ _ _ _ _ _ _ _)
      | (with_reducible exact ih5 _ _ _ _ _ _ _ _ _ _ _ _ _ _ _ _ _ _ _)
      | (with_reducible exact curtilagelaw18_awake.mono _)
      | (with_reducible exact curtilageref18_Right.mono _ _ _ _ _)
      | (with_reducible exact table_Slot.mono _ _ _ _ _ _ _ _)
      | (with_reducible exact LeO.refl _)
      | (with_reducible exact LeO.none _)
      | (with_reducible refine LeO.ite ?_ ?_)
      | (with_reducible refine LeO.bind ?_ (fun _ => ?_))
      | exact ih0 _ _ _ _ _ _
      | exact ih1 _ _ _ _ _ _ _ _ _ _ _ _
      | exact ih2 _ _ _ _ _ _ _ _ _ _ _ _
      | exact ih3 _ _ _ _ _ _ _ _ _ _ _ _ _ _ _ _ _ _ _
      | exact ih4 _ _ _ _ _ _ _ _ _ _ _ _ _ _ _ _ _ _ _
      | exact ih5 _ _ _ _ _ _ _ _ _ _ _ _ _ _ _ _ _ _ _
      | exact curtilagelaw18_awake.mono _
      | exact curtilageref18_Right.mono _ _ _ _ _
      | exact table_Slot.mono _ _ _ _ _ _ _ _
      | exact LeO.none _
      | refine LeO.ite ?_ ?_
      | refine LeO.bind ?_ (fun _ => ?_)
set_option maxHeartbeats 8000000 in
set_option maxRecDepth 100000 in
theorem curtilagelaw18_TableLess.calls (k : Nat) (A0 : Option Addr) (c0 : Nat) (l0 : List (S28)) (A1 : Option Addr) (c1 : Nat) (l1 : List Int) (A2 : Option Addr) (c2 : Nat) (l2 : List Int) (A3 : Option Addr) (c3 : Nat) (l3 : List (S44)) (r : Bool) (w : World) (hr0 : Kd.C k28 w A0 l0.length l0) (hc0 : l0.length ≤ c0) (hr1 : Kd.C (Kd.int .u64) w A1 l1.length l1) (hc1 : l1.length ≤ c1) (hr2 : Kd.C (Kd.int .i64) w A2 l2.length l2) (hc2 : l2.length ≤ c2) (hr3 : Kd.C k44 w A3 l3.length l3) (hc3 : l3.length ≤ c3) (h : curtilagelaw18_TableLess.f k l0 l1 l2 l3 = some r) (hr0 : r = true) :
  Calls Try.prog 4 #[.slice A0 l0.length c0, .slice A1 l1.length c1, .slice A2 l2.length c2, .slice A3 l3.length c3] w fun e w' => e = .returned (.bool r) ∧ Below w.heap.size w w' := by
 have HT := am hr0
 clear hr0
 have hu44 := Try.underlying44
 have hu37 := Try.underlying37
 have HR0 := am hr0
 have HC0 := am hc0
 clear hr0 hc0
 have HR1 := am hr1
 have HC1 := am hc1
 clear hr1 hc1
 have HR2 := am hr2
 have HC2 := am hc2
 clear hr2 hc2
 have HR3 := am hr3
 have HC3 := am hc3
 clear hr3 hc3
 have HB := am (Below.refl w.heap.size w)
 have H : ((curtilagelaw18_awake.f k).bind fun t642 => ((curtilageref18_Right.f k l0 l1 l2 l3).bind fun t643 => (if t643 = true then (curtilagelaw18_TableLess.l0 k l0 l1 l2 l3 t642 0) else (some t642)))) = some r := h
 clear h
 replace H := Option.bind_eq_some_iff.mp H
 obtain ⟨t642, A50, H⟩ := H
 replace H : ((curtilageref18_Right.f k l0 l1 l2 l3).bind fun t643 => (if t643 = true then (curtilagelaw18_TableLess.l0 k l0 l1 l2 l3 t642 0) else (some t642))) = some r := H
 have A5 := am A50
 clear A50
 replace H := Option.bind_eq_some_iff.mp H
 obtain ⟨t643, A60, H⟩ := H
 replace H : (if t643 = true then (curtilagelaw18_TableLess.l0 k l0 l1 l2 l3 t642 0) else (some t642)) = some r := H
 have A6 := am A60
 clear A60
 by_cases c7 : t643 = true
 ·subst c7
  have H1 : (curtilagelaw18_TableLess.l0 k l0 l1 l2 l3 t642 0) = some r := by rw [if_pos rfl] at H; exact H
  clear H
  have H := H1
  clear H1
  have H' := am H
  clear H
  go_enter Try.func4, Try.ntmps4
  go_wp2_with (first | (go_at_call 6; (with_reducible refine (curtilagelaw18_awake.calls k  t642 _ A5.out).mono ?_); rintro e w8 ⟨rfl, hb⟩; have n0_ := bs HB hb; revert n0_; clear HB; intro HB; (try clear hb)) | (go_at_call 7; (with_reducible refine (curtilageref18_Right.calls k _ _ l0 _ _ l1 _ _ l2 _ _ l3 true _ ?side1 ?side2 ?side3 ?side4 ?side5 ?side6 ?side7 ?side8 A6.out).mono ?_); (case side1 => exact us (Kd.C_below HR0.out HB.out)); (case side2 => exact HC0.out); (case side3 => exact us (Kd.C_below HR1.out HB.out)); (case side4 => exact HC1.out); (case side5 => exact us (Kd.C_below HR2.out HB.out)); (case side6 => exact HC2.out); (case side7 => exact us (Kd.C_below HR3.out HB.out)); (case side8 => exact HC3.out); rintro e w9 ⟨rfl, hb⟩; have n0_ := bs HB hb; revert n0_; clear HB; intro HB; (try clear hb)))
  repeat (go_quiet (first | (go_at_call 6; (with_reducible refine (curtilagelaw18_awake.calls k  t642 _ A5.out).mono ?_); rintro e w8 ⟨rfl, hb⟩; have n0_ := bs HB hb; revert n0_; clear HB; intro HB; (try clear hb)) | (go_at_call 7; (with_reducible refine (curtilageref18_Right.calls k _ _ l0 _ _ l1 _ _ l2 _ _ l3 true _ ?side1 ?side2 ?side3 ?side4 ?side5 ?side6 ?side7 ?side8 A6.out).mono ?_); (case side1 => exact us (Kd.C_below HR0.out HB.out)); (case side2 => exact HC0.out); (case side3 => exact us (Kd.C_below HR1.out HB.out)); (case side4 => exact HC1.out); (case side5 => exact us (Kd.C_below HR2.out HB.out)); (case side6 => exact HC2.out); (case side7 => exact us (Kd.C_below HR3.out HB.out)); (case side8 => exact HC3.out); rintro e w9 ⟨rfl, hb⟩; have n0_ := bs HB hb; revert n0_; clear HB; intro HB; (try clear hb))); try go_wp2_with (first | (go_at_call 6; (with_reducible refine (curtilagelaw18_awake.calls k  t642 _ A5.out).mono ?_); rintro e w8 ⟨rfl, hb⟩; have n0_ := bs HB hb; revert n0_; clear HB; intro HB; (try clear hb)) | (go_at_call 7; (with_reducible refine (curtilageref18_Right.calls k _ _ l0 _ _ l1 _ _ l2 _ _ l3 true _ ?side1 ?side2 ?side3 ?side4 ?side5 ?side6 ?side7 ?side8 A6.out).mono ?_); (case side1 => exact us (Kd.C_below HR0.out HB.out)); (case side2 => exact HC0.out); (case side3 => exact us (Kd.C_below HR1.out HB.out)); (case side4 => exact HC1.out); (case side5 => exact us (Kd.C_below HR2.out HB.out)); (case side6 => exact HC2.out); (case side7 => exact us (Kd.C_below HR3.out HB.out)); (case side8 => exact HC3.out); rintro e w9 ⟨rfl, hb⟩; have n0_ := bs HB hb; revert n0_; clear HB; intro HB; (try clear hb))))
  go_loopg [11] k (fun kq v11 w' => ∃ (x11_1 : Int), v11 = .int .i64 x11_1 ∧ Aside0 (curtilagelaw18_TableLess.l0 kq l0 l1 l2 l3 t642 x11_1 = some r) ∧ Aside0 (kq ≤ k) ∧ Aside0 (Below w.heap.size w w'))
  case atStart => exact ⟨(0), uf, H', ⟨Nat.le_refl _⟩, ⟨uc HB.out⟩⟩
  case round =>
   clear H'
   obtain ⟨x11_1, rfl, HA, HK1, HB⟩ := hrel
   cases gk with
   | zero => exact absurd HA.out (by simp [curtilagelaw18_TableLess.l0])
   | succ k1 =>
    have H := HA.out
    clear HA
    simp only [curtilagelaw18_TableLess.l0] at H
    by_cases c10 : x11_1 < (l3.length : Int)
    ·rw [if_pos c10] at H
     have c10b0 := decide_eq_true c10
     clear c10
     obtain ⟨c11, H⟩ := ic H
     have c11b0 : decide (0 ≤ x11_1) = true := decide_eq_true c11
     clear c11
     replace H := Option.bind_eq_some_iff.mp H
     obtain ⟨⟨t646, t649⟩, A120, H⟩ := H
     replace H : (if (t646.length : Int) = 0 then (curtilagelaw18_TableLess.j1 k1 l0 l1 l2 l3 t642 x11_1 t646 true ((rd_T44 l3 x11_1).f0) ((rd_T44 l3 x11_1).f1) ((rd_T44 l3 x11_1).f2) ((rd_T44 l3 x11_1).f3)) else (curtilagelaw18_TableLess.j1 k1 l0 l1 l2 l3 t642 x11_1 t646 (decide ((t646.length : Int) > 2)) ((rd_T44 l3 x11_1).f0) ((rd_T44 l3 x11_1).f1) ((rd_T44 l3 x11_1).f2) ((rd_T44 l3 x11_1).f3))) = some r := H
     have A12 := am A120
     clear A120
     have HC13 := am H
     clear H
     have p644 : 0 ≤ (x11_1 : Int) := ud
     have q644 : x11_1 < (l3.length : Int) := ud
     obtain ⟨ad644, e644, hx644_0, hx644_1, hx644_2, hx644_3⟩ := at_T44 HR3.out x11_1 p644 q644
     cases e644
     replace hx644_0 := bcel HB hx644_0
     replace hx644_1 := bcel HB hx644_1
     replace hx644_2 := bcel HB hx644_2
     replace hx644_3 := bcel HB hx644_3
     replace p644 := eq_true p644
     replace q644 := eq_true q644
     go_upto_region 10 with (first | ((with_reducible refine gate_dst (N := 12) rfl ?_); (try (refine gate_guard (by rfl) ?_; dsimp only)); refine box_event ?hg (N := 12) ?hd (cs := #[.int .i64 0, .int .i64 0, .int .i64 0, .int .i64 0]) (t := 44) ?hr ?_; (case hd => rfl); (case hg => rfl); (case hr => first | (go_simp; done) | (go_simp; rfl)); intro gb645 hg w14 hbox hb; have n0_ := bs HB hb; have n1_ := am (hbox); have n2_ := nz HB hg; have n3_ := nz HB hg; revert n0_ n1_ n2_ n3_; clear HB; intro HB BK645 GW645 GE645; clear hb hbox hg; have hcz15_0 : w14.cell? ⟨gb645, 0, none⟩ = some (.int .i64 0) := cz BK645 0; have hcz15_1 : w14.cell? ⟨gb645, 1, none⟩ = some (.int .i64 0) := cz BK645 1; have hcz15_2 : w14.cell? ⟨gb645, 2, none⟩ = some (.int .i64 0) := cz BK645 2; have hcz15_3 : w14.cell? ⟨gb645, 3, none⟩ = some (.int .i64 0) := cz BK645 3; have hfz15_0 := fz BK645 0; have hfz15_1 := fz BK645 1; have hfz15_2 := fz BK645 2; have hfz15_3 := fz BK645 3) | ((with_reducible refine gate_store (t := 44) (p := 12) rfl ?_); (try (rw [drewN_self w14]; generalize hq_ : World.drewN w14 _ = w14; have n0_ := am (blk_at hq_ BK645.out); have n1_ := am (below_at hq_ HB.out); clear hq_ BK645 HB; revert n0_ n1_; intro BK645 HB)); refine store_event (t := 44) (p := 12) (v := ?vo_w16) (w1 := ((((w14.setCell ⟨gb645, 0, none⟩ (.int .i64 ((rd_T44 l3 x11_1).f0))).setCell ⟨gb645, 1, none⟩ (.int .i64 ((rd_T44 l3 x11_1).f1))).setCell ⟨gb645, 2, none⟩ (.int .i64 ((rd_T44 l3 x11_1).f2))).setCell ⟨gb645, 3, none⟩ (.int .i64 ((rd_T44 l3 x11_1).f3)))) ?hg ?ho ?hn ?hr ?_; (case ho => rfl); (case hg => rfl); (case hn => rfl); (case hr => first | (go_simp; done) | (go_simp; rfl)); intro w16 hw; have n0_ := bp4 #[.int .i64 ((rd_T44 l3 x11_1).f0), .int .i64 ((rd_T44 l3 x11_1).f1), .int .i64 ((rd_T44 l3 x11_1).f2), .int .i64 ((rd_T44 l3 x11_1).f3)] hw BK645; have n1_ : Aside0 (Below w.heap.size w w16) := ⟨(by rw [hw]; exact (uc HB.out))⟩; revert n0_ n1_; clear hw BK645 HB; intro BK645 HB; have hcz17_0 : w16.cell? ⟨gb645, 0, none⟩ = some (.int .i64 ((rd_T44 l3 x11_1).f0)) := cz BK645 0; have hcz17_1 : w16.cell? ⟨gb645, 1, none⟩ = some (.int .i64 ((rd_T44 l3 x11_1).f1)) := cz BK645 1; have hcz17_2 : w16.cell? ⟨gb645, 2, none⟩ = some (.int .i64 ((rd_T44 l3 x11_1).f2)) := cz BK645 2; have hcz17_3 : w16.cell? ⟨gb645, 3, none⟩ = some (.int .i64 ((rd_T44 l3 x11_1).f3)) := cz BK645 3; have hfz17_0 := fz BK645 0; have hfz17_1 := fz BK645 1; have hfz17_2 := fz BK645 2; have hfz17_3 := fz BK645 3) | (go_at_call 12; (with_reducible refine (table_Slot.calls k1 _ _ l0 _ _ l1 _ _ l2 ((rd_T44 l3 x11_1).f0) ((rd_T44 l3 x11_1).f1) ((rd_T44 l3 x11_1).f2) ((rd_T44 l3 x11_1).f3) t646 t649 _ ?side1 ?side2 ?side3 ?side4 ?side5 ?side6 A12.out).mono ?_); (case side1 => exact us (Kd.C_below HR0.out HB.out)); (case side2 => exact HC0.out); (case side3 => exact us (Kd.C_below HR1.out HB.out)); (case side4 => exact HC1.out); (case side5 => exact us (Kd.C_below HR2.out HB.out)); (case side6 => exact HC2.out); rintro e w18 ⟨v647, rfl, ho0, hb⟩; have n0_ := am (Kd.R_lower ho0 (below_size (uc HB.out))); have n1_ := bw BK645 hb; have n2_ := bs HB hb; revert n0_ n1_ n2_; clear BK645 HB; intro HO648 BK645 HB; (try clear hb); (try clear ho0)))
     repeat (go_quiet (first | ((with_reducible refine gate_dst (N := 12) rfl ?_); (try (refine gate_guard (by rfl) ?_; dsimp only)); refine box_event ?hg (N := 12) ?hd (cs := #[.int .i64 0, .int .i64 0, .int .i64 0, .int .i64 0]) (t := 44) ?hr ?_; (case hd => rfl); (case hg => rfl); (case hr => first | (go_simp; done) | (go_simp; rfl)); intro gb645 hg w14 hbox hb; have n0_ := bs HB hb; have n1_ := am (hbox); have n2_ := nz HB hg; have n3_ := nz HB hg; revert n0_ n1_ n2_ n3_; clear HB; intro HB BK645 GW645 GE645; clear hb hbox hg; have hcz15_0 : w14.cell? ⟨gb645, 0, none⟩ = some (.int .i64 0) := cz BK645 0; have hcz15_1 : w14.cell? ⟨gb645, 1, none⟩ = some (.int .i64 0) := cz BK645 1; have hcz15_2 : w14.cell? ⟨gb645, 2, none⟩ = some (.int .i64 0) := cz BK645 2; have hcz15_3 : w14.cell? ⟨gb645, 3, none⟩ = some (.int .i64 0) := cz BK645 3; have hfz15_0 := fz BK645 0; have hfz15_1 := fz BK645 1; have hfz15_2 := fz BK645 2; have hfz15_3 := fz BK645 3) | ((with_reducible refine gate_store (t := 44) (p := 12) rfl ?_); (try (rw [drewN_self w14]; generalize hq_ : World.drewN w14 _ = w14; have n0_ := am (blk_at hq_ BK645.out); have n1_ := am (below_at hq_ HB.out); clear hq_ BK645 HB; revert n0_ n1_; intro BK645 HB)); refine store_event (t := 44) (p := 12) (v := ?vo_w16) (w1 := ((((w14.setCell ⟨gb645, 0, none⟩ (.int .i64 ((rd_T44 l3 x11_1).f0))).setCell ⟨gb645, 1, none⟩ (.int .i64 ((rd_T44 l3 x11_1).f1))).setCell ⟨gb645, 2, none⟩ (.int .i64 ((rd_T44 l3 x11_1).f2))).setCell ⟨gb645, 3, none⟩ (.int .i64 ((rd_T44 l3 x11_1).f3)))) ?hg ?ho ?hn ?hr ?_; (case ho => rfl); (case hg => rfl); (case hn => rfl); (case hr => first | (go_simp; done) | (go_simp; rfl)); intro w16 hw; have n0_ := bp4 #[.int .i64 ((rd_T44 l3 x11_1).f0), .int .i64 ((rd_T44 l3 x11_1).f1), .int .i64 ((rd_T44 l3 x11_1).f2), .int .i64 ((rd_T44 l3 x11_1).f3)] hw BK645; have n1_ : Aside0 (Below w.heap.size w w16) := ⟨(by rw [hw]; exact (uc HB.out))⟩; revert n0_ n1_; clear hw BK645 HB; intro BK645 HB; have hcz17_0 : w16.cell? ⟨gb645, 0, none⟩ = some (.int .i64 ((rd_T44 l3 x11_1).f0)) := cz BK645 0; have hcz17_1 : w16.cell? ⟨gb645, 1, none⟩ = some (.int .i64 ((rd_T44 l3 x11_1).f1)) := cz BK645 1; have hcz17_2 : w16.cell? ⟨gb645, 2, none⟩ = some (.int .i64 ((rd_T44 l3 x11_1).f2)) := cz BK645 2; have hcz17_3 : w16.cell? ⟨gb645, 3, none⟩ = some (.int .i64 ((rd_T44 l3 x11_1).f3)) := cz BK645 3; have hfz17_0 := fz BK645 0; have hfz17_1 := fz BK645 1; have hfz17_2 := fz BK645 2; have hfz17_3 := fz BK645 3) | (go_at_call 12; (with_reducible refine (table_Slot.calls k1 _ _ l0 _ _ l1 _ _ l2 ((rd_T44 l3 x11_1).f0) ((rd_T44 l3 x11_1).f1) ((rd_T44 l3 x11_1).f2) ((rd_T44 l3 x11_1).f3) t646 t649 _ ?side1 ?side2 ?side3 ?side4 ?side5 ?side6 A12.out).mono ?_); (case side1 => exact us (Kd.C_below HR0.out HB.out)); (case side2 => exact HC0.out); (case side3 => exact us (Kd.C_below HR1.out HB.out)); (case side4 => exact HC1.out); (case side5 => exact us (Kd.C_below HR2.out HB.out)); (case side6 => exact HC2.out); rintro e w18 ⟨v647, rfl, ho0, hb⟩; have n0_ := am (Kd.R_lower ho0 (below_size (uc HB.out))); have n1_ := bw BK645 hb; have n2_ := bs HB hb; revert n0_ n1_ n2_; clear BK645 HB; intro HO648 BK645 HB; (try clear hb); (try clear ho0))); go_upto_region 10 with (first | ((with_reducible refine gate_dst (N := 12) rfl ?_); (try (refine gate_guard (by rfl) ?_; dsimp only)); refine box_event ?hg (N := 12) ?hd (cs := #[.int .i64 0, .int .i64 0, .int .i64 0, .int .i64 0]) (t := 44) ?hr ?_; (case hd => rfl); (case hg => rfl); (case hr => first | (go_simp; done) | (go_simp; rfl)); intro gb645 hg w14 hbox hb; have n0_ := bs HB hb; have n1_ := am (hbox); have n2_ := nz HB hg; have n3_ := nz HB hg; revert n0_ n1_ n2_ n3_; clear HB; intro HB BK645 GW645 GE645; clear hb hbox hg; have hcz15_0 : w14.cell? ⟨gb645, 0, none⟩ = some (.int .i64 0) := cz BK645 0; have hcz15_1 : w14.cell? ⟨gb645, 1, none⟩ = some (.int .i64 0) := cz BK645 1; have hcz15_2 : w14.cell? ⟨gb645, 2, none⟩ = some (.int .i64 0) := cz BK645 2; have hcz15_3 : w14.cell? ⟨gb645, 3, none⟩ = some (.int .i64 0) := cz BK645 3; have hfz15_0 := fz BK645 0; have hfz15_1 := fz BK645 1; have hfz15_2 := fz BK645 2; have hfz15_3 := fz BK645 3) | ((with_reducible refine gate_store (t := 44) (p := 12) rfl ?_); (try (rw [drewN_self w14]; generalize hq_ : World.drewN w14 _ = w14; have n0_ := am (blk_at hq_ BK645.out); have n1_ := am (below_at hq_ HB.out); clear hq_ BK645 HB; revert n0_ n1_; intro BK645 HB)); refine store_event (t := 44) (p := 12) (v := ?vo_w16) (w1 := ((((w14.setCell ⟨gb645, 0, none⟩ (.int .i64 ((rd_T44 l3 x11_1).f0))).setCell ⟨gb645, 1, none⟩ (.int .i64 ((rd_T44 l3 x11_1).f1))).setCell ⟨gb645, 2, none⟩ (.int .i64 ((rd_T44 l3 x11_1).f2))).setCell ⟨gb645, 3, none⟩ (.int .i64 ((rd_T44 l3 x11_1).f3)))) ?hg ?ho ?hn ?hr ?_; (case ho => rfl); (case hg => rfl); (case hn => rfl); (case hr => first | (go_simp; done) | (go_simp; rfl)); intro w16 hw; have n0_ := bp4 #[.int .i64 ((rd_T44 l3 x11_1).f0), .int .i64 ((rd_T44 l3 x11_1).f1), .int .i64 ((rd_T44 l3 x11_1).f2), .int .i64 ((rd_T44 l3 x11_1).f3)] hw BK645; have n1_ : Aside0 (Below w.heap.size w w16) := ⟨(by rw [hw]; exact (uc HB.out))⟩; revert n0_ n1_; clear hw BK645 HB; intro BK645 HB; have hcz17_0 : w16.cell? ⟨gb645, 0, none⟩ = some (.int .i64 ((rd_T44 l3 x11_1).f0)) := cz BK645 0; have hcz17_1 : w16.cell? ⟨gb645, 1, none⟩ = some (.int .i64 ((rd_T44 l3 x11_1).f1)) := cz BK645 1; have hcz17_2 : w16.cell? ⟨gb645, 2, none⟩ = some (.int .i64 ((rd_T44 l3 x11_1).f2)) := cz BK645 2; have hcz17_3 : w16.cell? ⟨gb645, 3, none⟩ = some (.int .i64 ((rd_T44 l3 x11_1).f3)) := cz BK645 3; have hfz17_0 := fz BK645 0; have hfz17_1 := fz BK645 1; have hfz17_2 := fz BK645 2; have hfz17_3 := fz BK645 3) | (go_at_call 12; (with_reducible refine (table_Slot.calls k1 _ _ l0 _ _ l1 _ _ l2 ((rd_T44 l3 x11_1).f0) ((rd_T44 l3 x11_1).f1) ((rd_T44 l3 x11_1).f2) ((rd_T44 l3 x11_1).f3) t646 t649 _ ?side1 ?side2 ?side3 ?side4 ?side5 ?side6 A12.out).mono ?_); (case side1 => exact us (Kd.C_below HR0.out HB.out)); (case side2 => exact HC0.out); (case side3 => exact us (Kd.C_below HR1.out HB.out)); (case side4 => exact HC1.out); (case side5 => exact us (Kd.C_below HR2.out HB.out)); (case side6 => exact HC2.out); rintro e w18 ⟨v647, rfl, ho0, hb⟩; have n0_ := am (Kd.R_lower ho0 (below_size (uc HB.out))); have n1_ := bw BK645 hb; have n2_ := bs HB hb; revert n0_ n1_ n2_; clear BK645 HB; intro HO648 BK645 HB; (try clear hb); (try clear ho0))))
     (try simp only [Act.put, List.setIfInBounds_toArray, List.set_cons_zero, List.set_cons_succ])
     go_cut [51] (fun v51 wc => ∃ (kq : Nat) (x51_12 : Bool), v51 = .bool x51_12 ∧ Aside0 (curtilagelaw18_TableLess.j1 kq l0 l1 l2 l3 t642 x11_1 t646 x51_12 ((rd_T44 l3 x11_1).f0) ((rd_T44 l3 x11_1).f1) ((rd_T44 l3 x11_1).f2) ((rd_T44 l3 x11_1).f3) = some r) ∧ Aside0 (kq ≤ k1) ∧ Aside0 (Kd.R k37 37 wc w.heap.size (fun _ => True) v647 t646) ∧ Aside0 (wc.heap[gb645]? = some (.cells #[.int .i64 ((rd_T44 l3 x11_1).f0), .int .i64 ((rd_T44 l3 x11_1).f1), .int .i64 ((rd_T44 l3 x11_1).f2), .int .i64 ((rd_T44 l3 x11_1).f3)] 44 (0, 0))) ∧ Aside0 (Below w.heap.size w wc))
     case first =>
      have H := HC13.out
      clear HC13
      by_cases c19 : (t646.length : Int) = 0
      ·rw [if_pos c19] at H
       have c19b0 := beq_iff_eq.mpr c19
       have c19b1 := bne_eq_false_iff_eq.mpr c19
       clear c19
       (first | rw [c19b0] | (simp only [i64_w, i32_w]; rw [c19b0]) | skip)
       have H' := am H
       clear H
       obtain ⟨Ao20, co20, eo20⟩ := Kd.R_slice HO648.out
       subst eo20
       go_wp2
       repeat (go_quiet (fail); try go_wp2)
       go_meet
       case rel => exact ⟨_, (true), uf, H', ⟨by have := HK1.out; first | omega | exact Nat.le_refl _⟩, ⟨ua HO648.out⟩, ⟨ub BK645.out⟩, ⟨uc HB.out⟩⟩
      ·rw [if_neg c19] at H
       have c19b0 := beq_eq_false_iff_ne.mpr c19
       have c19b1 := bne_iff_ne.mpr c19
       have c19b2 : ¬ (t646 = []) := fun h_ => c19 (by rw [h_]; rfl)
       (first | rw [c19b0] | (simp only [i64_w, i32_w]; rw [c19b0]) | skip)
       have H' := am H
       clear H
       obtain ⟨Ao21, co21, eo21⟩ := Kd.R_slice HO648.out
       subst eo21
       go_wp2
       repeat (go_quiet (fail); try go_wp2)
       go_meet
       case rel => exact ⟨_, (decide ((t646.length : Int) > 2)), uf, H', ⟨by have := HK1.out; first | omega | exact Nat.le_refl _⟩, ⟨ua HO648.out⟩, ⟨ub BK645.out⟩, ⟨uc HB.out⟩⟩
     case rest =>
      clear HC13
      clear c10b0 c11b0 hcz15_0 hcz15_1 hcz15_2 hcz15_3 hcz17_0 hcz17_1 hcz17_2 hcz17_3 hfz15_0 hfz15_1 hfz15_2 hfz15_3 hfz17_0 hfz17_1 hfz17_2 hfz17_3 hx644_0 hx644_1 hx644_2 hx644_3 p644 q644
      obtain ⟨kq, x51_12, rfl, HA, HJ12, HO_13, BK645, HB⟩ := hcut
      cases kq with
      | zero => exact absurd HA.out (by simp [curtilagelaw18_TableLess.j1])
      | succ kj12 =>
       have H := HA.out
       clear HA
       simp only [curtilagelaw18_TableLess.j1] at H
       by_cases c22 : x51_12 = true
       ·subst c22
        have H1 : (some false) = some r := by rw [if_pos rfl] at H; exact H
        clear H
        have H := H1
        clear H1
        exact absurd ((Option.some.inj H).trans HT.out) (by decide)
       ·replace c22 := Bool.eq_false_iff.mpr c22
        subst c22
        have H1 : (curtilagelaw18_TableLess.l1 kj12 l0 l1 l2 l3 t642 x11_1 t646 0 ((rd_T44 l3 x11_1).f0) ((rd_T44 l3 x11_1).f1) ((rd_T44 l3 x11_1).f2) ((rd_T44 l3 x11_1).f3)) = some r := by rw [if_neg (show ¬ (false = true) by decide)] at H; exact H
        clear H
        have H := H1
        clear H1
        have H' := am H
        clear H
        go_wp2
        repeat (go_quiet (fail); try go_wp2)
        go_loopg [15] kj12 (fun kq v15 w' => ∃ (x15_3 : Int), v15 = .int .i64 x15_3 ∧ Aside0 (curtilagelaw18_TableLess.l1 kq l0 l1 l2 l3 t642 x11_1 t646 x15_3 ((rd_T44 l3 x11_1).f0) ((rd_T44 l3 x11_1).f1) ((rd_T44 l3 x11_1).f2) ((rd_T44 l3 x11_1).f3) = some r) ∧ Aside0 (kq ≤ kj12) ∧ Aside0 (Kd.R k37 37 w' w.heap.size (fun _ => True) v647 t646) ∧ Aside0 (w'.heap[gb645]? = some (.cells #[.int .i64 ((rd_T44 l3 x11_1).f0), .int .i64 ((rd_T44 l3 x11_1).f1), .int .i64 ((rd_T44 l3 x11_1).f2), .int .i64 ((rd_T44 l3 x11_1).f3)] 44 (0, 0))) ∧ Aside0 (Below w.heap.size w w'))
        case atStart => exact ⟨(0), uf, H', ⟨Nat.le_refl _⟩, ⟨ua HO_13.out⟩, ⟨ub BK645.out⟩, ⟨uc HB.out⟩⟩
        case round =>
         clear H'
         obtain ⟨x15_3, rfl, HA, HK3, HO_13, BK645, HB⟩ := hrel
         cases gk with
         | zero => exact absurd HA.out (by simp [curtilagelaw18_TableLess.l1])
         | succ k3 =>
          have H := HA.out
          clear HA
          simp only [curtilagelaw18_TableLess.l1] at H
          by_cases c23 : x15_3 < (t646.length : Int)
          ·rw [if_pos c23] at H
           have c23b0 := decide_eq_true c23
           clear c23
           obtain ⟨c24, H⟩ := ic H
           have c24b0 : decide (0 ≤ x15_3) = true := decide_eq_true c24
           clear c24
           have HC25 := am H
           clear H
           obtain ⟨Ao26, co26, eo26⟩ := Kd.R_slice HO_13.out
           subst eo26
           have p650 : 0 ≤ (x15_3 : Int) := ud
           have q650 : x15_3 < (t646.length : Int) := ud
           obtain ⟨ad650, e650, hx650_0, hx650_1, hx650_2, hx650_3, hx650_4, hx650_5⟩ := at_T37 (Kd.R_reads' HO_13.out).2.2 x15_3 p650 q650
           cases e650
           replace p650 := eq_true p650
           replace q650 := eq_true q650
           go_upto_region 16 with (first | ((with_reducible refine gate_dst (N := 16) rfl ?_); (try (refine gate_guard (by rfl) ?_; dsimp only)); refine box_event ?hg (N := 16) ?hd (cs := #[.int .u64 0, .int .u64 0, .int .u64 0, .int .i64 0, .int .i64 0, .bool false]) (t := 37) ?hr ?_; (case hd => rfl); (case hg => rfl); (case hr => first | (go_simp; done) | (go_simp; rfl)); intro gb651 hg w27 hbox hb; have n0_ := am (Kd.R_below (Kd.R_elderB (ua HO_13.out) gb651 (Nat.le_of_eq hg.symm)) hb); have n1_ := bw BK645 hb; have n2_ := bs HB hb; have n3_ := am (hbox); have n4_ := nz HB hg; have n5_ := nz HB hg; have n6_ := nl BK645 hg; have n7_ := nr BK645 hg; revert n0_ n1_ n2_ n3_ n4_ n5_ n6_ n7_; clear HO_13 BK645 HB; intro HO_13 BK645 HB BK651 GW651 GE651 NB645_651 NB651_645; clear hb hbox hg; have hnb28 := NB651_645.out; have hnc28 := NB645_651.out; have hcz29_0 : w27.cell? ⟨gb651, 0, none⟩ = some (.int .u64 0) := cz BK651 0; have hcz29_1 : w27.cell? ⟨gb651, 1, none⟩ = some (.int .u64 0) := cz BK651 1; have hcz29_2 : w27.cell? ⟨gb651, 2, none⟩ = some (.int .u64 0) := cz BK651 2; have hcz29_3 : w27.cell? ⟨gb651, 3, none⟩ = some (.int .i64 0) := cz BK651 3; have hcz29_4 : w27.cell? ⟨gb651, 4, none⟩ = some (.int .i64 0) := cz BK651 4; have hcz29_5 : w27.cell? ⟨gb651, 5, none⟩ = some (.bool false) := cz BK651 5; have hfz29_0 := fz BK651 0; have hfz29_1 := fz BK651 1; have hfz29_2 := fz BK651 2; have hfz29_3 := fz BK651 3; have hfz29_4 := fz BK651 4; have hfz29_5 := fz BK651 5) | ((with_reducible refine gate_store (t := 37) (p := 16) rfl ?_); (try (rw [drewN_self w27]; generalize hq_ : World.drewN w27 _ = w27; have n0_ := am (Kd.R_at hq_ HO_13.out); have n1_ := am (blk_at hq_ BK645.out); have n2_ := am (blk_at hq_ BK651.out); have n3_ := am (below_at hq_ HB.out); clear hq_ HO_13 BK645 BK651 HB; revert n0_ n1_ n2_ n3_; intro HO_13 BK645 BK651 HB)); refine store_event (t := 37) (p := 16) (v := ?vo_w30) (w1 := ((((((w27.setCell ⟨gb651, 0, none⟩ (.int .u64 ((rd_T37 t646 x15_3).f0))).setCell ⟨gb651, 1, none⟩ (.int .u64 ((rd_T37 t646 x15_3).f1))).setCell ⟨gb651, 2, none⟩ (.int .u64 ((rd_T37 t646 x15_3).f2))).setCell ⟨gb651, 3, none⟩ (.int .i64 ((rd_T37 t646 x15_3).f3))).setCell ⟨gb651, 4, none⟩ (.int .i64 ((rd_T37 t646 x15_3).f4))).setCell ⟨gb651, 5, none⟩ (.bool ((rd_T37 t646 x15_3).f5)))) ?hg ?ho ?hn ?hr ?_; (case ho => rfl); (case hg => rfl); (case hn => rfl); (case hr => first | (go_simp; done) | (go_simp; rfl)); intro w30 hw; have n0_ : Aside0 (Kd.R k37 37 w30 w.heap.size (fun k_ => k_ ≠ gb651) (.slice (some ad650) t646.length co26) t646) := ⟨(by rw [hw]; exact (by (with_reducible repeat (first | apply Kd.R_alloc | apply Kd.R_drewN | apply Kd.R_drew)); exact Kd.R_mono (Kd.R_far (p := ⟨gb651, 5, none⟩) (Kd.R_far (p := ⟨gb651, 4, none⟩) (Kd.R_far (p := ⟨gb651, 3, none⟩) (Kd.R_far (p := ⟨gb651, 2, none⟩) (Kd.R_far (p := ⟨gb651, 1, none⟩) (Kd.R_far (p := ⟨gb651, 0, none⟩) (Kd.R_mono HO_13.out (fun k_ hk => (⟨hk, hk.2⟩ : _ ∧ k_ ≠ gb651))) (fun _ hk => hk.2) (.int .u64 ((rd_T37 t646 x15_3).f0))) (fun _ hk => hk.2) (.int .u64 ((rd_T37 t646 x15_3).f1))) (fun _ hk => hk.2) (.int .u64 ((rd_T37 t646 x15_3).f2))) (fun _ hk => hk.2) (.int .i64 ((rd_T37 t646 x15_3).f3))) (fun _ hk => hk.2) (.int .i64 ((rd_T37 t646 x15_3).f4))) (fun _ hk => hk.2) (.bool ((rd_T37 t646 x15_3).f5))) (fun _ hk => hk.1.2)))⟩; have n1_ := bf6 hw NB645_651 BK645; have n2_ := bp6 #[.int .u64 ((rd_T37 t646 x15_3).f0), .int .u64 ((rd_T37 t646 x15_3).f1), .int .u64 ((rd_T37 t646 x15_3).f2), .int .i64 ((rd_T37 t646 x15_3).f3), .int .i64 ((rd_T37 t646 x15_3).f4), .bool ((rd_T37 t646 x15_3).f5)] hw BK651; have n3_ : Aside0 (Below w.heap.size w w30) := ⟨(by rw [hw]; exact (uc HB.out))⟩; revert n0_ n1_ n2_ n3_; clear hw HO_13 BK645 BK651 HB; intro HO_13 BK645 BK651 HB))
           repeat (go_quiet (first | ((with_reducible refine gate_dst (N := 16) rfl ?_); (try (refine gate_guard (by rfl) ?_; dsimp only)); refine box_event ?hg (N := 16) ?hd (cs := #[.int .u64 0, .int .u64 0, .int .u64 0, .int .i64 0, .int .i64 0, .bool false]) (t := 37) ?hr ?_; (case hd => rfl); (case hg => rfl); (case hr => first | (go_simp; done) | (go_simp; rfl)); intro gb651 hg w27 hbox hb; have n0_ := am (Kd.R_below (Kd.R_elderB (ua HO_13.out) gb651 (Nat.le_of_eq hg.symm)) hb); have n1_ := bw BK645 hb; have n2_ := bs HB hb; have n3_ := am (hbox); have n4_ := nz HB hg; have n5_ := nz HB hg; have n6_ := nl BK645 hg; have n7_ := nr BK645 hg; revert n0_ n1_ n2_ n3_ n4_ n5_ n6_ n7_; clear HO_13 BK645 HB; intro HO_13 BK645 HB BK651 GW651 GE651 NB645_651 NB651_645; clear hb hbox hg; have hnb28 := NB651_645.out; have hnc28 := NB645_651.out; have hcz29_0 : w27.cell? ⟨gb651, 0, none⟩ = some (.int .u64 0) := cz BK651 0; have hcz29_1 : w27.cell? ⟨gb651, 1, none⟩ = some (.int .u64 0) := cz BK651 1; have hcz29_2 : w27.cell? ⟨gb651, 2, none⟩ = some (.int .u64 0) := cz BK651 2; have hcz29_3 : w27.cell? ⟨gb651, 3, none⟩ = some (.int .i64 0) := cz BK651 3; have hcz29_4 : w27.cell? ⟨gb651, 4, none⟩ = some (.int .i64 0) := cz BK651 4; have hcz29_5 : w27.cell? ⟨gb651, 5, none⟩ = some (.bool false) := cz BK651 5; have hfz29_0 := fz BK651 0; have hfz29_1 := fz BK651 1; have hfz29_2 := fz BK651 2; have hfz29_3 := fz BK651 3; have hfz29_4 := fz BK651 4; have hfz29_5 := fz BK651 5) | ((with_reducible refine gate_store (t := 37) (p := 16) rfl ?_); (try (rw [drewN_self w27]; generalize hq_ : World.drewN w27 _ = w27; have n0_ := am (Kd.R_at hq_ HO_13.out); have n1_ := am (blk_at hq_ BK645.out); have n2_ := am (blk_at hq_ BK651.out); have n3_ := am (below_at hq_ HB.out); clear hq_ HO_13 BK645 BK651 HB; revert n0_ n1_ n2_ n3_; intro HO_13 BK645 BK651 HB)); refine store_event (t := 37) (p := 16) (v := ?vo_w30) (w1 := ((((((w27.setCell ⟨gb651, 0, none⟩ (.int .u64 ((rd_T37 t646 x15_3).f0))).setCell ⟨gb651, 1, none⟩ (.int .u64 ((rd_T37 t646 x15_3).f1))).setCell ⟨gb651, 2, none⟩ (.int .u64 ((rd_T37 t646 x15_3).f2))).setCell ⟨gb651, 3, none⟩ (.int .i64 ((rd_T37 t646 x15_3).f3))).setCell ⟨gb651, 4, none⟩ (.int .i64 ((rd_T37 t646 x15_3).f4))).setCell ⟨gb651, 5, none⟩ (.bool ((rd_T37 t646 x15_3).f5)))) ?hg ?ho ?hn ?hr ?_; (case ho => rfl); (case hg => rfl); (case hn => rfl); (case hr => first | (go_simp; done) | (go_simp; rfl)); intro w30 hw; have n0_ : Aside0 (Kd.R k37 37 w30 w.heap.size (fun k_ => k_ ≠ gb651) (.slice (some ad650) t646.length co26) t646) := ⟨(by rw [hw]; exact (by (with_reducible repeat (first | apply Kd.R_alloc | apply Kd.R_drewN | apply Kd.R_drew)); exact Kd.R_mono (Kd.R_far (p := ⟨gb651, 5, none⟩) (Kd.R_far (p := ⟨gb651, 4, none⟩) (Kd.R_far (p := ⟨gb651, 3, none⟩) (Kd.R_far (p := ⟨gb651, 2, none⟩) (Kd.R_far (p := ⟨gb651, 1, none⟩) (Kd.R_far (p := ⟨gb651, 0, none⟩) (Kd.R_mono HO_13.out (fun k_ hk => (⟨hk, hk.2⟩ : _ ∧ k_ ≠ gb651))) (fun _ hk => hk.2) (.int .u64 ((rd_T37 t646 x15_3).f0))) (fun _ hk => hk.2) (.int .u64 ((rd_T37 t646 x15_3).f1))) (fun _ hk => hk.2) (.int .u64 ((rd_T37 t646 x15_3).f2))) (fun _ hk => hk.2) (.int .i64 ((rd_T37 t646 x15_3).f3))) (fun _ hk => hk.2) (.int .i64 ((rd_T37 t646 x15_3).f4))) (fun _ hk => hk.2) (.bool ((rd_T37 t646 x15_3).f5))) (fun _ hk => hk.1.2)))⟩; have n1_ := bf6 hw NB645_651 BK645; have n2_ := bp6 #[.int .u64 ((rd_T37 t646 x15_3).f0), .int .u64 ((rd_T37 t646 x15_3).f1), .int .u64 ((rd_T37 t646 x15_3).f2), .int .i64 ((rd_T37 t646 x15_3).f3), .int .i64 ((rd_T37 t646 x15_3).f4), .bool ((rd_T37 t646 x15_3).f5)] hw BK651; have n3_ : Aside0 (Below w.heap.size w w30) := ⟨(by rw [hw]; exact (uc HB.out))⟩; revert n0_ n1_ n2_ n3_; clear hw HO_13 BK645 BK651 HB; intro HO_13 BK645 BK651 HB)); go_upto_region 16 with (first | ((with_reducible refine gate_dst (N := 16) rfl ?_); (try (refine gate_guard (by rfl) ?_; dsimp only)); refine box_event ?hg (N := 16) ?hd (cs := #[.int .u64 0, .int .u64 0, .int .u64 0, .int .i64 0, .int .i64 0, .bool false]) (t := 37) ?hr ?_; (case hd => rfl); (case hg => rfl); (case hr => first | (go_simp; done) | (go_simp; rfl)); intro gb651 hg w27 hbox hb; have n0_ := am (Kd.R_below (Kd.R_elderB (ua HO_13.out) gb651 (Nat.le_of_eq hg.symm)) hb); have n1_ := bw BK645 hb; have n2_ := bs HB hb; have n3_ := am (hbox); have n4_ := nz HB hg; have n5_ := nz HB hg; have n6_ := nl BK645 hg; have n7_ := nr BK645 hg; revert n0_ n1_ n2_ n3_ n4_ n5_ n6_ n7_; clear HO_13 BK645 HB; intro HO_13 BK645 HB BK651 GW651 GE651 NB645_651 NB651_645; clear hb hbox hg; have hnb28 := NB651_645.out; have hnc28 := NB645_651.out; have hcz29_0 : w27.cell? ⟨gb651, 0, none⟩ = some (.int .u64 0) := cz BK651 0; have hcz29_1 : w27.cell? ⟨gb651, 1, none⟩ = some (.int .u64 0) := cz BK651 1; have hcz29_2 : w27.cell? ⟨gb651, 2, none⟩ = some (.int .u64 0) := cz BK651 2; have hcz29_3 : w27.cell? ⟨gb651, 3, none⟩ = some (.int .i64 0) := cz BK651 3; have hcz29_4 : w27.cell? ⟨gb651, 4, none⟩ = some (.int .i64 0) := cz BK651 4; have hcz29_5 : w27.cell? ⟨gb651, 5, none⟩ = some (.bool false) := cz BK651 5; have hfz29_0 := fz BK651 0; have hfz29_1 := fz BK651 1; have hfz29_2 := fz BK651 2; have hfz29_3 := fz BK651 3; have hfz29_4 := fz BK651 4; have hfz29_5 := fz BK651 5) | ((with_reducible refine gate_store (t := 37) (p := 16) rfl ?_); (try (rw [drewN_self w27]; generalize hq_ : World.drewN w27 _ = w27; have n0_ := am (Kd.R_at hq_ HO_13.out); have n1_ := am (blk_at hq_ BK645.out); have n2_ := am (blk_at hq_ BK651.out); have n3_ := am (below_at hq_ HB.out); clear hq_ HO_13 BK645 BK651 HB; revert n0_ n1_ n2_ n3_; intro HO_13 BK645 BK651 HB)); refine store_event (t := 37) (p := 16) (v := ?vo_w30) (w1 := ((((((w27.setCell ⟨gb651, 0, none⟩ (.int .u64 ((rd_T37 t646 x15_3).f0))).setCell ⟨gb651, 1, none⟩ (.int .u64 ((rd_T37 t646 x15_3).f1))).setCell ⟨gb651, 2, none⟩ (.int .u64 ((rd_T37 t646 x15_3).f2))).setCell ⟨gb651, 3, none⟩ (.int .i64 ((rd_T37 t646 x15_3).f3))).setCell ⟨gb651, 4, none⟩ (.int .i64 ((rd_T37 t646 x15_3).f4))).setCell ⟨gb651, 5, none⟩ (.bool ((rd_T37 t646 x15_3).f5)))) ?hg ?ho ?hn ?hr ?_; (case ho => rfl); (case hg => rfl); (case hn => rfl); (case hr => first | (go_simp; done) | (go_simp; rfl)); intro w30 hw; have n0_ : Aside0 (Kd.R k37 37 w30 w.heap.size (fun k_ => k_ ≠ gb651) (.slice (some ad650) t646.length co26) t646) := ⟨(by rw [hw]; exact (by (with_reducible repeat (first | apply Kd.R_alloc | apply Kd.R_drewN | apply Kd.R_drew)); exact Kd.R_mono (Kd.R_far (p := ⟨gb651, 5, none⟩) (Kd.R_far (p := ⟨gb651, 4, none⟩) (Kd.R_far (p := ⟨gb651, 3, none⟩) (Kd.R_far (p := ⟨gb651, 2, none⟩) (Kd.R_far (p := ⟨gb651, 1, none⟩) (Kd.R_far (p := ⟨gb651, 0, none⟩) (Kd.R_mono HO_13.out (fun k_ hk => (⟨hk, hk.2⟩ : _ ∧ k_ ≠ gb651))) (fun _ hk => hk.2) (.int .u64 ((rd_T37 t646 x15_3).f0))) (fun _ hk => hk.2) (.int .u64 ((rd_T37 t646 x15_3).f1))) (fun _ hk => hk.2) (.int .u64 ((rd_T37 t646 x15_3).f2))) (fun _ hk => hk.2) (.int .i64 ((rd_T37 t646 x15_3).f3))) (fun _ hk => hk.2) (.int .i64 ((rd_T37 t646 x15_3).f4))) (fun _ hk => hk.2) (.bool ((rd_T37 t646 x15_3).f5))) (fun _ hk => hk.1.2)))⟩; have n1_ := bf6 hw NB645_651 BK645; have n2_ := bp6 #[.int .u64 ((rd_T37 t646 x15_3).f0), .int .u64 ((rd_T37 t646 x15_3).f1), .int .u64 ((rd_T37 t646 x15_3).f2), .int .i64 ((rd_T37 t646 x15_3).f3), .int .i64 ((rd_T37 t646 x15_3).f4), .bool ((rd_T37 t646 x15_3).f5)] hw BK651; have n3_ : Aside0 (Below w.heap.size w w30) := ⟨(by rw [hw]; exact (uc HB.out))⟩; revert n0_ n1_ n2_ n3_; clear hw HO_13 BK645 BK651 HB; intro HO_13 BK645 BK651 HB)))
           (try simp only [Act.put, List.setIfInBounds_toArray, List.set_cons_zero, List.set_cons_succ])
           go_cut [75] (fun v75 wc => ∃ (kq : Nat) (x75_24 : Bool), v75 = .bool x75_24 ∧ Aside0 (curtilagelaw18_TableLess.j3 kq l0 l1 l2 l3 t642 x11_1 t646 x15_3 x75_24 ((rd_T44 l3 x11_1).f0) ((rd_T44 l3 x11_1).f1) ((rd_T44 l3 x11_1).f2) ((rd_T44 l3 x11_1).f3) ((rd_T37 t646 x15_3).f0) ((rd_T37 t646 x15_3).f1) ((rd_T37 t646 x15_3).f2) ((rd_T37 t646 x15_3).f3) ((rd_T37 t646 x15_3).f4) ((rd_T37 t646 x15_3).f5) = some r) ∧ Aside0 (kq ≤ k3) ∧ Aside0 (Kd.R k37 37 wc w.heap.size (fun k_ => k_ ≠ gb651) (.slice (some ad650) t646.length co26) t646) ∧ Aside0 (wc.heap[gb645]? = some (.cells #[.int .i64 ((rd_T44 l3 x11_1).f0), .int .i64 ((rd_T44 l3 x11_1).f1), .int .i64 ((rd_T44 l3 x11_1).f2), .int .i64 ((rd_T44 l3 x11_1).f3)] 44 (0, 0))) ∧ Aside0 (wc.heap[gb651]? = some (.cells #[.int .u64 ((rd_T37 t646 x15_3).f0), .int .u64 ((rd_T37 t646 x15_3).f1), .int .u64 ((rd_T37 t646 x15_3).f2), .int .i64 ((rd_T37 t646 x15_3).f3), .int .i64 ((rd_T37 t646 x15_3).f4), .bool ((rd_T37 t646 x15_3).f5)] 37 (0, 0))) ∧ Aside0 (Below w.heap.size w wc))
           case first =>
            have H := HC25.out
            clear HC25
            obtain ⟨bq31, hbq31⟩ : ∃ b_ : Bool, b_ = ((rd_T37 t646 x15_3).f5) := ⟨_, rfl⟩
            replace H : (if bq31 = true then (if (Go.bits .and .i64 ((rd_T37 t646 x15_3).f3) 96) = 0 then (curtilagelaw18_TableLess.j3 k3 l0 l1 l2 l3 t642 x11_1 t646 x15_3 ((Go.bits .and .i64 ((rd_T37 t646 x15_3).f3) 6) == 6) ((rd_T44 l3 x11_1).f0) ((rd_T44 l3 x11_1).f1) ((rd_T44 l3 x11_1).f2) ((rd_T44 l3 x11_1).f3) ((rd_T37 t646 x15_3).f0) ((rd_T37 t646 x15_3).f1) ((rd_T37 t646 x15_3).f2) ((rd_T37 t646 x15_3).f3) ((rd_T37 t646 x15_3).f4) bq31) else (curtilagelaw18_TableLess.j3 k3 l0 l1 l2 l3 t642 x11_1 t646 x15_3 true ((rd_T44 l3 x11_1).f0) ((rd_T44 l3 x11_1).f1) ((rd_T44 l3 x11_1).f2) ((rd_T44 l3 x11_1).f3) ((rd_T37 t646 x15_3).f0) ((rd_T37 t646 x15_3).f1) ((rd_T37 t646 x15_3).f2) ((rd_T37 t646 x15_3).f3) ((rd_T37 t646 x15_3).f4) bq31)) else (curtilagelaw18_TableLess.j3 k3 l0 l1 l2 l3 t642 x11_1 t646 x15_3 false ((rd_T44 l3 x11_1).f0) ((rd_T44 l3 x11_1).f1) ((rd_T44 l3 x11_1).f2) ((rd_T44 l3 x11_1).f3) ((rd_T37 t646 x15_3).f0) ((rd_T37 t646 x15_3).f1) ((rd_T37 t646 x15_3).f2) ((rd_T37 t646 x15_3).f3) ((rd_T37 t646 x15_3).f4) bq31)) = some r := by rw [← hbq31] at H; exact H
            have Nbq31 := am hbq31
            clear hbq31
            (try rw [← Nbq31.out])
            (try (have h_ := BK645.out; rw [← Nbq31.out] at h_; clear BK645; have BK645 := am h_; clear h_))
            (try (have h_ := BK651.out; rw [← Nbq31.out] at h_; clear BK651; have BK651 := am h_; clear h_))
            by_cases c32 : bq31 = true
            ·subst c32
             have H1 : (if (Go.bits .and .i64 ((rd_T37 t646 x15_3).f3) 96) = 0 then (curtilagelaw18_TableLess.j3 k3 l0 l1 l2 l3 t642 x11_1 t646 x15_3 ((Go.bits .and .i64 ((rd_T37 t646 x15_3).f3) 6) == 6) ((rd_T44 l3 x11_1).f0) ((rd_T44 l3 x11_1).f1) ((rd_T44 l3 x11_1).f2) ((rd_T44 l3 x11_1).f3) ((rd_T37 t646 x15_3).f0) ((rd_T37 t646 x15_3).f1) ((rd_T37 t646 x15_3).f2) ((rd_T37 t646 x15_3).f3) ((rd_T37 t646 x15_3).f4) true) else (curtilagelaw18_TableLess.j3 k3 l0 l1 l2 l3 t642 x11_1 t646 x15_3 true ((rd_T44 l3 x11_1).f0) ((rd_T44 l3 x11_1).f1) ((rd_T44 l3 x11_1).f2) ((rd_T44 l3 x11_1).f3) ((rd_T37 t646 x15_3).f0) ((rd_T37 t646 x15_3).f1) ((rd_T37 t646 x15_3).f2) ((rd_T37 t646 x15_3).f3) ((rd_T37 t646 x15_3).f4) true)) = some r := by rw [if_pos rfl] at H; exact H
             clear H
             have H := H1
             clear H1
             by_cases c33 : (Go.bits .and .i64 ((rd_T37 t646 x15_3).f3) 96) = 0
             ·rw [if_pos c33] at H
              have c33b0 := beq_iff_eq.mpr c33
              have c33b1 := bne_eq_false_iff_eq.mpr c33
              clear c33
              have H' := am H
              clear H
              have hnb34 := NB651_645.out
              have hnc34 := NB645_651.out
              obtain ⟨hcz35_0, hcz35_1, hcz35_2, hcz35_3, hcz35_4, -, -, -, -, -, -, -⟩ := cl6 BK651
              have hcz35_5 : w30.cell? ⟨gb651, 5, none⟩ = some (.bool true) := (blk_cell BK651.out 5).trans (by first | with_reducible rfl | (rw [← Nbq31.out]; rfl) | rfl)
              have hfz35_0 := fz BK651 0
              have hfz35_1 := fz BK651 1
              have hfz35_2 := fz BK651 2
              have hfz35_3 := fz BK651 3
              have hfz35_4 := fz BK651 4
              have hfz35_5 := fz BK651 5
              go_wp2
              repeat (go_quiet (fail); try go_wp2)
              go_meet
              case rel => exact ⟨_, (((Go.bits .and .i64 ((rd_T37 t646 x15_3).f3) 6) == 6)), uf, (by first | exact H' | (rw [← Nbq31.out]; exact H')), ⟨by have := HK1.out; have := HJ12.out; have := HK3.out; first | omega | exact Nat.le_refl _⟩, ⟨ua HO_13.out⟩, ⟨by (with_reducible repeat (first | refine blk_drewN ?_ _ | refine blk_drew ?_ | refine blk_alloc ?_ _)); first | exact BK645.out | (rw [← Nbq31.out]; exact BK645.out)⟩, ⟨by (with_reducible repeat (first | refine blk_drewN ?_ _ | refine blk_drew ?_ | refine blk_alloc ?_ _)); first | exact BK651.out | (rw [← Nbq31.out]; exact BK651.out)⟩, ⟨uc HB.out⟩⟩
             ·rw [if_neg c33] at H
              have c33b0 := beq_eq_false_iff_ne.mpr c33
              have c33b1 := bne_iff_ne.mpr c33
              have H' := am H
              clear H
              have hnb36 := NB651_645.out
              have hnc36 := NB645_651.out
              obtain ⟨hcz37_0, hcz37_1, hcz37_2, hcz37_3, hcz37_4, -, -, -, -, -, -, -⟩ := cl6 BK651
              have hcz37_5 : w30.cell? ⟨gb651, 5, none⟩ = some (.bool true) := (blk_cell BK651.out 5).trans (by first | with_reducible rfl | (rw [← Nbq31.out]; rfl) | rfl)
              have hfz37_0 := fz BK651 0
              have hfz37_1 := fz BK651 1
              have hfz37_2 := fz BK651 2
              have hfz37_3 := fz BK651 3
              have hfz37_4 := fz BK651 4
              have hfz37_5 := fz BK651 5
              go_wp2
              repeat (go_quiet (fail); try go_wp2)
              go_meet
              case rel => exact ⟨_, (true), uf, (by first | exact H' | (rw [← Nbq31.out]; exact H')), ⟨by have := HK1.out; have := HJ12.out; have := HK3.out; first | omega | exact Nat.le_refl _⟩, ⟨ua HO_13.out⟩, ⟨by (with_reducible repeat (first | refine blk_drewN ?_ _ | refine blk_drew ?_ | refine blk_alloc ?_ _)); first | exact BK645.out | (rw [← Nbq31.out]; exact BK645.out)⟩, ⟨by (with_reducible repeat (first | refine blk_drewN ?_ _ | refine blk_drew ?_ | refine blk_alloc ?_ _)); first | exact BK651.out | (rw [← Nbq31.out]; exact BK651.out)⟩, ⟨uc HB.out⟩⟩
            ·replace c32 := Bool.eq_false_iff.mpr c32
             subst c32
             have H1 : (curtilagelaw18_TableLess.j3 k3 l0 l1 l2 l3 t642 x11_1 t646 x15_3 false ((rd_T44 l3 x11_1).f0) ((rd_T44 l3 x11_1).f1) ((rd_T44 l3 x11_1).f2) ((rd_T44 l3 x11_1).f3) ((rd_T37 t646 x15_3).f0) ((rd_T37 t646 x15_3).f1) ((rd_T37 t646 x15_3).f2) ((rd_T37 t646 x15_3).f3) ((rd_T37 t646 x15_3).f4) false) = some r := by rw [if_neg (show ¬ (false = true) by decide)] at H; exact H
             clear H
             have H := H1
             clear H1
             have H' := am H
             clear H
             have hnb38 := NB651_645.out
             have hnc38 := NB645_651.out
             obtain ⟨hcz39_0, hcz39_1, hcz39_2, hcz39_3, hcz39_4, -, -, -, -, -, -, -⟩ := cl6 BK651
             have hcz39_5 : w30.cell? ⟨gb651, 5, none⟩ = some (.bool false) := (blk_cell BK651.out 5).trans (by first | with_reducible rfl | (rw [← Nbq31.out]; rfl) | rfl)
             have hfz39_0 := fz BK651 0
             have hfz39_1 := fz BK651 1
             have hfz39_2 := fz BK651 2
             have hfz39_3 := fz BK651 3
             have hfz39_4 := fz BK651 4
             have hfz39_5 := fz BK651 5
             go_wp2
             repeat (go_quiet (fail); try go_wp2)
             go_meet
             case rel => exact ⟨_, (false), uf, (by first | exact H' | (rw [← Nbq31.out]; exact H')), ⟨by have := HK1.out; have := HJ12.out; have := HK3.out; first | omega | exact Nat.le_refl _⟩, ⟨ua HO_13.out⟩, ⟨by (with_reducible repeat (first | refine blk_drewN ?_ _ | refine blk_drew ?_ | refine blk_alloc ?_ _)); first | exact BK645.out | (rw [← Nbq31.out]; exact BK645.out)⟩, ⟨by (with_reducible repeat (first | refine blk_drewN ?_ _ | refine blk_drew ?_ | refine blk_alloc ?_ _)); first | exact BK651.out | (rw [← Nbq31.out]; exact BK651.out)⟩, ⟨uc HB.out⟩⟩
           case rest =>
            clear HC25
            clear c23b0 c24b0 hcz29_0 hcz29_1 hcz29_2 hcz29_3 hcz29_4 hcz29_5 hfz29_0 hfz29_1 hfz29_2 hfz29_3 hfz29_4 hfz29_5 hx650_0 hx650_1 hx650_2 hx650_3 hx650_4 hx650_5 p650 q650
            obtain ⟨kq, x75_24, rfl, HA, HJ24, HO_13, BK645, BK651, HB⟩ := hcut
            cases kq with
            | zero => exact absurd HA.out (by simp [curtilagelaw18_TableLess.j3])
            | succ kj24 =>
             have H := HA.out
             clear HA
             simp only [curtilagelaw18_TableLess.j3] at H
             by_cases c40 : x75_24 = true
             ·subst c40
              have H1 : (some false) = some r := by rw [if_pos rfl] at H; exact H
              clear H
              have H := H1
              clear H1
              exact absurd ((Option.some.inj H).trans HT.out) (by decide)
             ·replace c40 := Bool.eq_false_iff.mpr c40
              subst c40
              have H1 : (if ((rd_T44 l3 x11_1).f2) < 0 then (curtilagelaw18_TableLess.j4 kj24 l0 l1 l2 l3 t642 x11_1 t646 x15_3 ((rd_T37 t646 x15_3).f5) ((rd_T44 l3 x11_1).f0) ((rd_T44 l3 x11_1).f1) ((rd_T44 l3 x11_1).f2) ((rd_T44 l3 x11_1).f3) ((rd_T37 t646 x15_3).f0) ((rd_T37 t646 x15_3).f1) ((rd_T37 t646 x15_3).f2) ((rd_T37 t646 x15_3).f3) ((rd_T37 t646 x15_3).f4) ((rd_T37 t646 x15_3).f5)) else (curtilagelaw18_TableLess.j4 kj24 l0 l1 l2 l3 t642 x11_1 t646 x15_3 false ((rd_T44 l3 x11_1).f0) ((rd_T44 l3 x11_1).f1) ((rd_T44 l3 x11_1).f2) ((rd_T44 l3 x11_1).f3) ((rd_T37 t646 x15_3).f0) ((rd_T37 t646 x15_3).f1) ((rd_T37 t646 x15_3).f2) ((rd_T37 t646 x15_3).f3) ((rd_T37 t646 x15_3).f4) ((rd_T37 t646 x15_3).f5))) = some r := by rw [if_neg (show ¬ (false = true) by decide)] at H; exact H
              clear H
              have H := H1
              clear H1
              have HC41 := am H
              clear H
              go_upto_region 18 with (fail)
              repeat (go_quiet (fail); go_upto_region 18 with (fail))
              go_cut [82] (fun v82 wc => ∃ (kq : Nat) (x82_40 : Bool), v82 = .bool x82_40 ∧ Aside0 (curtilagelaw18_TableLess.j4 kq l0 l1 l2 l3 t642 x11_1 t646 x15_3 x82_40 ((rd_T44 l3 x11_1).f0) ((rd_T44 l3 x11_1).f1) ((rd_T44 l3 x11_1).f2) ((rd_T44 l3 x11_1).f3) ((rd_T37 t646 x15_3).f0) ((rd_T37 t646 x15_3).f1) ((rd_T37 t646 x15_3).f2) ((rd_T37 t646 x15_3).f3) ((rd_T37 t646 x15_3).f4) ((rd_T37 t646 x15_3).f5) = some r) ∧ Aside0 (kq ≤ kj24) ∧ Aside0 (Kd.R k37 37 wc w.heap.size (fun k_ => k_ ≠ gb651) (.slice (some ad650) t646.length co26) t646) ∧ Aside0 (wc.heap[gb645]? = some (.cells #[.int .i64 ((rd_T44 l3 x11_1).f0), .int .i64 ((rd_T44 l3 x11_1).f1), .int .i64 ((rd_T44 l3 x11_1).f2), .int .i64 ((rd_T44 l3 x11_1).f3)] 44 (0, 0))) ∧ Aside0 (wc.heap[gb651]? = some (.cells #[.int .u64 ((rd_T37 t646 x15_3).f0), .int .u64 ((rd_T37 t646 x15_3).f1), .int .u64 ((rd_T37 t646 x15_3).f2), .int .i64 ((rd_T37 t646 x15_3).f3), .int .i64 ((rd_T37 t646 x15_3).f4), .bool ((rd_T37 t646 x15_3).f5)] 37 (0, 0))) ∧ Aside0 (Below w.heap.size w wc))
              case first =>
               have H := HC41.out
               clear HC41
               by_cases c42 : ((rd_T44 l3 x11_1).f2) < 0
               ·rw [if_pos c42] at H
                have c42b0 := decide_eq_true c42
                clear c42
                (first | rw [c42b0] | (simp only [i64_w, i32_w]; rw [c42b0]) | skip)
                have H' := am H
                clear H
                have hnb43 := NB645_651.out
                have hnc43 := NB651_645.out
                obtain ⟨hcz44_0, hcz44_1, hcz44_2, hcz44_3, hfz44_0, hfz44_1, hfz44_2, hfz44_3⟩ := cl4 BK645
                obtain ⟨hcz45_0, hcz45_1, hcz45_2, hcz45_3, hcz45_4, hcz45_5, hfz45_0, hfz45_1, hfz45_2, hfz45_3, hfz45_4, hfz45_5⟩ := cl6 BK651
                go_wp2
                repeat (go_quiet (fail); try go_wp2)
                go_meet
                case rel => exact ⟨_, (((rd_T37 t646 x15_3).f5)), uf, (by first | exact H' | (rw [← Nbq31.out]; exact H')), ⟨by have := HK1.out; have := HJ12.out; have := HK3.out; have := HJ24.out; first | omega | exact Nat.le_refl _⟩, ⟨ua HO_13.out⟩, ⟨by (with_reducible repeat (first | refine blk_drewN ?_ _ | refine blk_drew ?_ | refine blk_alloc ?_ _)); first | exact BK645.out | (rw [← Nbq31.out]; exact BK645.out)⟩, ⟨by (with_reducible repeat (first | refine blk_drewN ?_ _ | refine blk_drew ?_ | refine blk_alloc ?_ _)); first | exact BK651.out | (rw [← Nbq31.out]; exact BK651.out)⟩, ⟨uc HB.out⟩⟩
               ·rw [if_neg c42] at H
                have c42b0 := decide_eq_false c42
                clear c42
                (first | rw [c42b0] | (simp only [i64_w, i32_w]; rw [c42b0]) | skip)
                have H' := am H
                clear H
                have hnb46 := NB645_651.out
                have hnc46 := NB651_645.out
                obtain ⟨hcz47_0, hcz47_1, hcz47_2, hcz47_3, hfz47_0, hfz47_1, hfz47_2, hfz47_3⟩ := cl4 BK645
                go_wp2
                repeat (go_quiet (fail); try go_wp2)
                go_meet
                case rel => exact ⟨_, (false), uf, (by first | exact H' | (rw [← Nbq31.out]; exact H')), ⟨by have := HK1.out; have := HJ12.out; have := HK3.out; have := HJ24.out; first | omega | exact Nat.le_refl _⟩, ⟨ua HO_13.out⟩, ⟨by (with_reducible repeat (first | refine blk_drewN ?_ _ | refine blk_drew ?_ | refine blk_alloc ?_ _)); first | exact BK645.out | (rw [← Nbq31.out]; exact BK645.out)⟩, ⟨by (with_reducible repeat (first | refine blk_drewN ?_ _ | refine blk_drew ?_ | refine blk_alloc ?_ _)); first | exact BK651.out | (rw [← Nbq31.out]; exact BK651.out)⟩, ⟨uc HB.out⟩⟩
              case rest =>
               clear HC41
               obtain ⟨kq, x82_40, rfl, HA, HJ40, HO_13, BK645, BK651, HB⟩ := hcut
               cases kq with
               | zero => exact absurd HA.out (by simp [curtilagelaw18_TableLess.j4])
               | succ kj40 =>
                have H := HA.out
                clear HA
                simp only [curtilagelaw18_TableLess.j4] at H
                by_cases c48 : x82_40 = true
                ·subst c48
                 have H1 : (some false) = some r := by rw [if_pos rfl] at H; exact H
                 clear H
                 have H := H1
                 clear H1
                 exact absurd ((Option.some.inj H).trans HT.out) (by decide)
                ·replace c48 := Bool.eq_false_iff.mpr c48
                 subst c48
                 have H1 : (if ((rd_T44 l3 x11_1).f2) ≥ 0 then (if ((rd_T37 t646 x15_3).f5) = true then (if 0 ≤ ((rd_T44 l3 x11_1).f2) then (if ((rd_T44 l3 x11_1).f2) < (l0.length : Int) then (if 0 ≤ ((rd_T44 l3 x11_1).f3) then (if ((rd_T44 l3 x11_1).f3) < (((rd_T28 l0 ((rd_T44 l3 x11_1).f2)).f3).length : Int) then (if ((rd_T35 ((rd_T28 l0 ((rd_T44 l3 x11_1).f2)).f3) ((rd_T44 l3 x11_1).f3)).f4) = 1 then (if ((rd_T44 l3 x11_1).f2) < (l2.length : Int) then (if ((rd_T37 t646 x15_3).f4) = (rd l2 ((rd_T44 l3 x11_1).f2)) then (curtilagelaw18_TableLess.j5 kj40 l0 l1 l2 l3 t642 x11_1 t646 x15_3 (((Go.bits .and .i64 ((rd_T37 t646 x15_3).f3) 4) != 0) != (x15_3 == 0)) ((rd_T44 l3 x11_1).f0) ((rd_T44 l3 x11_1).f1) ((rd_T44 l3 x11_1).f2) ((rd_T44 l3 x11_1).f3) ((rd_T37 t646 x15_3).f0) ((rd_T37 t646 x15_3).f1) ((rd_T37 t646 x15_3).f2) ((rd_T37 t646 x15_3).f3) ((rd_T37 t646 x15_3).f4) ((rd_T37 t646 x15_3).f5)) else (curtilagelaw18_TableLess.j5 kj40 l0 l1 l2 l3 t642 x11_1 t646 x15_3 true ((rd_T44 l3 x11_1).f0) ((rd_T44 l3 x11_1).f1) ((rd_T44 l3 x11_1).f2) ((rd_T44 l3 x11_1).f3) ((rd_T37 t646 x15_3).f0) ((rd_T37 t646 x15_3).f1) ((rd_T37 t646 x15_3).f2) ((rd_T37 t646 x15_3).f3) ((rd_T37 t646 x15_3).f4) ((rd_T37 t646 x15_3).f5))) else (none)) else (curtilagelaw18_TableLess.j5 kj40 l0 l1 l2 l3 t642 x11_1 t646 x15_3 false ((rd_T44 l3 x11_1).f0) ((rd_T44 l3 x11_1).f1) ((rd_T44 l3 x11_1).f2) ((rd_T44 l3 x11_1).f3) ((rd_T37 t646 x15_3).f0) ((rd_T37 t646 x15_3).f1) ((rd_T37 t646 x15_3).f2) ((rd_T37 t646 x15_3).f3) ((rd_T37 t646 x15_3).f4) ((rd_T37 t646 x15_3).f5))) else (none)) else (none)) else (none)) else (none)) else (curtilagelaw18_TableLess.j5 kj40 l0 l1 l2 l3 t642 x11_1 t646 x15_3 false ((rd_T44 l3 x11_1).f0) ((rd_T44 l3 x11_1).f1) ((rd_T44 l3 x11_1).f2) ((rd_T44 l3 x11_1).f3) ((rd_T37 t646 x15_3).f0) ((rd_T37 t646 x15_3).f1) ((rd_T37 t646 x15_3).f2) ((rd_T37 t646 x15_3).f3) ((rd_T37 t646 x15_3).f4) ((rd_T37 t646 x15_3).f5))) else (curtilagelaw18_TableLess.j5 kj40 l0 l1 l2 l3 t642 x11_1 t646 x15_3 false ((rd_T44 l3 x11_1).f0) ((rd_T44 l3 x11_1).f1) ((rd_T44 l3 x11_1).f2) ((rd_T44 l3 x11_1).f3) ((rd_T37 t646 x15_3).f0) ((rd_T37 t646 x15_3).f1) ((rd_T37 t646 x15_3).f2) ((rd_T37 t646 x15_3).f3) ((rd_T37 t646 x15_3).f4) ((rd_T37 t646 x15_3).f5))) = some r := by rw [if_neg (show ¬ (false = true) by decide)] at H; exact H
                 clear H
                 have H := H1
                 clear H1
                 have HC49 := am H
                 clear H
                 go_upto_region 20 with (fail)
                 repeat (go_quiet (fail); go_upto_region 20 with (fail))
                 go_cut [122] (fun v122 wc => ∃ (kq : Nat) (x122_48 : Bool), v122 = .bool x122_48 ∧ Aside0 (curtilagelaw18_TableLess.j5 kq l0 l1 l2 l3 t642 x11_1 t646 x15_3 x122_48 ((rd_T44 l3 x11_1).f0) ((rd_T44 l3 x11_1).f1) ((rd_T44 l3 x11_1).f2) ((rd_T44 l3 x11_1).f3) ((rd_T37 t646 x15_3).f0) ((rd_T37 t646 x15_3).f1) ((rd_T37 t646 x15_3).f2) ((rd_T37 t646 x15_3).f3) ((rd_T37 t646 x15_3).f4) ((rd_T37 t646 x15_3).f5) = some r) ∧ Aside0 (kq ≤ kj40) ∧ Aside0 (Kd.R k37 37 wc w.heap.size (fun k_ => k_ ≠ gb651) (.slice (some ad650) t646.length co26) t646) ∧ Aside0 (wc.heap[gb645]? = some (.cells #[.int .i64 ((rd_T44 l3 x11_1).f0), .int .i64 ((rd_T44 l3 x11_1).f1), .int .i64 ((rd_T44 l3 x11_1).f2), .int .i64 ((rd_T44 l3 x11_1).f3)] 44 (0, 0))) ∧ Aside0 (wc.heap[gb651]? = some (.cells #[.int .u64 ((rd_T37 t646 x15_3).f0), .int .u64 ((rd_T37 t646 x15_3).f1), .int .u64 ((rd_T37 t646 x15_3).f2), .int .i64 ((rd_T37 t646 x15_3).f3), .int .i64 ((rd_T37 t646 x15_3).f4), .bool ((rd_T37 t646 x15_3).f5)] 37 (0, 0))) ∧ Aside0 (Below w.heap.size w wc))
                 case first =>
                  have H := HC49.out
                  clear HC49
                  by_cases c50 : ((rd_T44 l3 x11_1).f2) ≥ 0
                  ·rw [if_pos c50] at H
                   have c50b0 : decide (0 ≤ ((rd_T44 l3 x11_1).f2)) = true := decide_eq_true c50
                   clear c50
                   (first | rw [c50b0] | (simp only [i64_w, i32_w]; rw [c50b0]) | skip)
                   by_cases c51 : ((rd_T37 t646 x15_3).f5) = true
                   ·rw [if_pos c51] at H
                    have c51b0 : ((rd_T37 t646 x15_3).f5) = true := c51
                    clear c51
                    obtain ⟨c52, H⟩ := ic H
                    have c52b0 : decide (0 ≤ ((rd_T44 l3 x11_1).f2)) = true := decide_eq_true c52
                    clear c52
                    obtain ⟨c53, H⟩ := ic H
                    have c53b0 : decide (((rd_T44 l3 x11_1).f2) < (l0.length : Int)) = true := decide_eq_true c53
                    clear c53
                    obtain ⟨c54, H⟩ := ic H
                    have c54b0 : decide (0 ≤ ((rd_T44 l3 x11_1).f3)) = true := decide_eq_true c54
                    clear c54
                    obtain ⟨c55, H⟩ := ic H
                    have c55b0 : decide (((rd_T44 l3 x11_1).f3) < (((rd_T28 l0 ((rd_T44 l3 x11_1).f2)).f3).length : Int)) = true := decide_eq_true c55
                    clear c55
                    by_cases c56 : ((rd_T35 ((rd_T28 l0 ((rd_T44 l3 x11_1).f2)).f3) ((rd_T44 l3 x11_1).f3)).f4) = 1
                    ·rw [if_pos c56] at H
                     have c56b0 := beq_iff_eq.mpr c56
                     have c56b1 := bne_eq_false_iff_eq.mpr c56
                     clear c56
                     obtain ⟨c57, H⟩ := ic H
                     have c57b0 : decide (((rd_T44 l3 x11_1).f2) < (l2.length : Int)) = true := decide_eq_true c57
                     clear c57
                     by_cases c58 : ((rd_T37 t646 x15_3).f4) = (rd l2 ((rd_T44 l3 x11_1).f2))
                     ·rw [if_pos c58] at H
                      have c58b0 := beq_iff_eq.mpr c58
                      have c58b1 := bne_eq_false_iff_eq.mpr c58
                      clear c58
                      have H' := am H
                      clear H
                      have hnb59 := NB645_651.out
                      have hnc59 := NB651_645.out
                      obtain ⟨hcz60_0, hcz60_1, hcz60_2, hcz60_3, hfz60_0, hfz60_1, hfz60_2, hfz60_3⟩ := cl4 BK645
                      obtain ⟨hcz61_0, hcz61_1, hcz61_2, hcz61_3, hcz61_4, hcz61_5, hfz61_0, hfz61_1, hfz61_2, hfz61_3, hfz61_4, hfz61_5⟩ := cl6 BK651
                      have p652 : 0 ≤ (((rd_T44 l3 x11_1).f2) : Int) := ud
                      have q652 : ((rd_T44 l3 x11_1).f2) < (l0.length : Int) := ud
                      obtain ⟨ad652, A652_1, c652_1, A652_2, c652_2, A652_3, c652_3, A652_4, c652_4, A652_5, c652_5, A652_6, c652_6, e652, hx652_0, hx652_1, hx652_2, hx652_3, hx652_4, hx652_5, hx652_6, hl652_1, hi652_1, hl652_2, hi652_2, hl652_3, hi652_3, hl652_4, hi652_4, hl652_5, hi652_5, hl652_6, hi652_6⟩ := at_T28 HR0.out ((rd_T44 l3 x11_1).f2) p652 q652
                      cases e652
                      replace hx652_0 := bcel HB hx652_0
                      replace hx652_1 := bcel HB hx652_1
                      replace hx652_2 := bcel HB hx652_2
                      replace hx652_3 := bcel HB hx652_3
                      replace hx652_4 := bcel HB hx652_4
                      replace hx652_5 := bcel HB hx652_5
                      replace hx652_6 := bcel HB hx652_6
                      have HR652_1 := am hi652_1
                      have HC652_1 := am hl652_1
                      clear hi652_1 hl652_1
                      have HR652_2 := am hi652_2
                      have HC652_2 := am hl652_2
                      clear hi652_2 hl652_2
                      have HR652_3 := am hi652_3
                      have HC652_3 := am hl652_3
                      clear hi652_3 hl652_3
                      have HR652_4 := am hi652_4
                      have HC652_4 := am hl652_4
                      clear hi652_4 hl652_4
                      have HR652_5 := am hi652_5
                      have HC652_5 := am hl652_5
                      clear hi652_5 hl652_5
                      have HR652_6 := am hi652_6
                      have HC652_6 := am hl652_6
                      clear hi652_6 hl652_6
                      replace p652 := eq_true p652
                      replace q652 := eq_true q652
                      have p653 : 0 ≤ (((rd_T44 l3 x11_1).f3) : Int) := ud
                      have q653 : ((rd_T44 l3 x11_1).f3) < (((rd_T28 l0 ((rd_T44 l3 x11_1).f2)).f3).length : Int) := ud
                      obtain ⟨ad653, e653, hx653_0, hx653_1, hx653_2, hx653_3, hx653_4, hx653_5, hx653_6, hx653_7⟩ := at_T35 HR652_3.out ((rd_T44 l3 x11_1).f3) p653 q653
                      cases e653
                      replace hx653_0 := bcel HB hx653_0
                      replace hx653_1 := bcel HB hx653_1
                      replace hx653_2 := bcel HB hx653_2
                      replace hx653_3 := bcel HB hx653_3
                      replace hx653_4 := bcel HB hx653_4
                      replace hx653_5 := bcel HB hx653_5
                      replace hx653_6 := bcel HB hx653_6
                      replace hx653_7 := bcel HB hx653_7
                      replace p653 := eq_true p653
                      replace q653 := eq_true q653
                      have p654 : 0 ≤ (((rd_T44 l3 x11_1).f2) : Int) := ud
                      have q654 : ((rd_T44 l3 x11_1).f2) < (l2.length : Int) := ud
                      obtain ⟨ad654, e654, hx654_0⟩ := Kd.at_int HR2.out ((rd_T44 l3 x11_1).f2) p654 q654
                      cases e654
                      replace hx654_0 := bcel HB hx654_0
                      replace p654 := eq_true p654
                      replace q654 := eq_true q654
                      go_wp2
                      repeat (go_quiet (fail); try go_wp2)
                      go_meet
                      case rel => exact ⟨_, ((((Go.bits .and .i64 ((rd_T37 t646 x15_3).f3) 4) != 0) != (x15_3 == 0))), uf, (by first | exact H' | (rw [← Nbq31.out]; exact H')), ⟨by have := HK1.out; have := HJ12.out; have := HK3.out; have := HJ24.out; have := HJ40.out; first | omega | exact Nat.le_refl _⟩, ⟨ua HO_13.out⟩, ⟨by (with_reducible repeat (first | refine blk_drewN ?_ _ | refine blk_drew ?_ | refine blk_alloc ?_ _)); first | exact BK645.out | (rw [← Nbq31.out]; exact BK645.out)⟩, ⟨by (with_reducible repeat (first | refine blk_drewN ?_ _ | refine blk_drew ?_ | refine blk_alloc ?_ _)); first | exact BK651.out | (rw [← Nbq31.out]; exact BK651.out)⟩, ⟨uc HB.out⟩⟩
                     ·rw [if_neg c58] at H
                      have c58b0 := beq_eq_false_iff_ne.mpr c58
                      have c58b1 := bne_iff_ne.mpr c58
                      have H' := am H
                      clear H
                      have hnb62 := NB645_651.out
                      have hnc62 := NB651_645.out
                      obtain ⟨hcz63_0, hcz63_1, hcz63_2, hcz63_3, hfz63_0, hfz63_1, hfz63_2, hfz63_3⟩ := cl4 BK645
                      obtain ⟨hcz64_0, hcz64_1, hcz64_2, hcz64_3, hcz64_4, hcz64_5, hfz64_0, hfz64_1, hfz64_2, hfz64_3, hfz64_4, hfz64_5⟩ := cl6 BK651
                      have p652 : 0 ≤ (((rd_T44 l3 x11_1).f2) : Int) := ud
                      have q652 : ((rd_T44 l3 x11_1).f2) < (l0.length : Int) := ud
                      obtain ⟨ad652, A652_1, c652_1, A652_2, c652_2, A652_3, c652_3, A652_4, c652_4, A652_5, c652_5, A652_6, c652_6, e652, hx652_0, hx652_1, hx652_2, hx652_3, hx652_4, hx652_5, hx652_6, hl652_1, hi652_1, hl652_2, hi652_2, hl652_3, hi652_3, hl652_4, hi652_4, hl652_5, hi652_5, hl652_6, hi652_6⟩ := at_T28 HR0.out ((rd_T44 l3 x11_1).f2) p652 q652
                      cases e652
                      replace hx652_0 := bcel HB hx652_0
                      replace hx652_1 := bcel HB hx652_1
                      replace hx652_2 := bcel HB hx652_2
                      replace hx652_3 := bcel HB hx652_3
                      replace hx652_4 := bcel HB hx652_4
                      replace hx652_5 := bcel HB hx652_5
                      replace hx652_6 := bcel HB hx652_6
                      have HR652_1 := am hi652_1
                      have HC652_1 := am hl652_1
                      clear hi652_1 hl652_1
                      have HR652_2 := am hi652_2
                      have HC652_2 := am hl652_2
                      clear hi652_2 hl652_2
                      have HR652_3 := am hi652_3
                      have HC652_3 := am hl652_3
                      clear hi652_3 hl652_3
                      have HR652_4 := am hi652_4
                      have HC652_4 := am hl652_4
                      clear hi652_4 hl652_4
                      have HR652_5 := am hi652_5
                      have HC652_5 := am hl652_5
                      clear hi652_5 hl652_5
                      have HR652_6 := am hi652_6
                      have HC652_6 := am hl652_6
                      clear hi652_6 hl652_6
                      replace p652 := eq_true p652
                      replace q652 := eq_true q652
                      have p653 : 0 ≤ (((rd_T44 l3 x11_1).f3) : Int) := ud
                      have q653 : ((rd_T44 l3 x11_1).f3) < (((rd_T28 l0 ((rd_T44 l3 x11_1).f2)).f3).length : Int) := ud
                      obtain ⟨ad653, e653, hx653_0, hx653_1, hx653_2, hx653_3, hx653_4, hx653_5, hx653_6, hx653_7⟩ := at_T35 HR652_3.out ((rd_T44 l3 x11_1).f3) p653 q653
                      cases e653
                      replace hx653_0 := bcel HB hx653_0
                      replace hx653_1 := bcel HB hx653_1
                      replace hx653_2 := bcel HB hx653_2
                      replace hx653_3 := bcel HB hx653_3
                      replace hx653_4 := bcel HB hx653_4
                      replace hx653_5 := bcel HB hx653_5
                      replace hx653_6 := bcel HB hx653_6
                      replace hx653_7 := bcel HB hx653_7
                      replace p653 := eq_true p653
                      replace q653 := eq_true q653
                      have p654 : 0 ≤ (((rd_T44 l3 x11_1).f2) : Int) := ud
                      have q654 : ((rd_T44 l3 x11_1).f2) < (l2.length : Int) := ud
                      obtain ⟨ad654, e654, hx654_0⟩ := Kd.at_int HR2.out ((rd_T44 l3 x11_1).f2) p654 q654
                      cases e654
                      replace hx654_0 := bcel HB hx654_0
                      replace p654 := eq_true p654
                      replace q654 := eq_true q654
                      go_wp2
                      repeat (go_quiet (fail); try go_wp2)
                      go_meet
                      case rel => exact ⟨_, (true), uf, (by first | exact H' | (rw [← Nbq31.out]; exact H')), ⟨by have := HK1.out; have := HJ12.out; have := HK3.out; have := HJ24.out; have := HJ40.out; first | omega | exact Nat.le_refl _⟩, ⟨ua HO_13.out⟩, ⟨by (with_reducible repeat (first | refine blk_drewN ?_ _ | refine blk_drew ?_ | refine blk_alloc ?_ _)); first | exact BK645.out | (rw [← Nbq31.out]; exact BK645.out)⟩, ⟨by (with_reducible repeat (first | refine blk_drewN ?_ _ | refine blk_drew ?_ | refine blk_alloc ?_ _)); first | exact BK651.out | (rw [← Nbq31.out]; exact BK651.out)⟩, ⟨uc HB.out⟩⟩
                    ·rw [if_neg c56] at H
                     have c56b0 := beq_eq_false_iff_ne.mpr c56
                     have c56b1 := bne_iff_ne.mpr c56
                     have H' := am H
                     clear H
                     have hnb65 := NB645_651.out
                     have hnc65 := NB651_645.out
                     obtain ⟨hcz66_0, hcz66_1, hcz66_2, hcz66_3, hfz66_0, hfz66_1, hfz66_2, hfz66_3⟩ := cl4 BK645
                     obtain ⟨hcz67_0, hcz67_1, hcz67_2, hcz67_3, hcz67_4, hcz67_5, hfz67_0, hfz67_1, hfz67_2, hfz67_3, hfz67_4, hfz67_5⟩ := cl6 BK651
                     have p652 : 0 ≤ (((rd_T44 l3 x11_1).f2) : Int) := ud
                     have q652 : ((rd_T44 l3 x11_1).f2) < (l0.length : Int) := ud
                     obtain ⟨ad652, A652_1, c652_1, A652_2, c652_2, A652_3, c652_3, A652_4, c652_4, A652_5, c652_5, A652_6, c652_6, e652, hx652_0, hx652_1, hx652_2, hx652_3, hx652_4, hx652_5, hx652_6, hl652_1, hi652_1, hl652_2, hi652_2, hl652_3, hi652_3, hl652_4, hi652_4, hl652_5, hi652_5, hl652_6, hi652_6⟩ := at_T28 HR0.out ((rd_T44 l3 x11_1).f2) p652 q652
                     cases e652
                     replace hx652_0 := bcel HB hx652_0
                     replace hx652_1 := bcel HB hx652_1
                     replace hx652_2 := bcel HB hx652_2
                     replace hx652_3 := bcel HB hx652_3
                     replace hx652_4 := bcel HB hx652_4
                     replace hx652_5 := bcel HB hx652_5
                     replace hx652_6 := bcel HB hx652_6
                     have HR652_1 := am hi652_1
                     have HC652_1 := am hl652_1
                     clear hi652_1 hl652_1
                     have HR652_2 := am hi652_2
                     have HC652_2 := am hl652_2
                     clear hi652_2 hl652_2
                     have HR652_3 := am hi652_3
                     have HC652_3 := am hl652_3
                     clear hi652_3 hl652_3
                     have HR652_4 := am hi652_4
                     have HC652_4 := am hl652_4
                     clear hi652_4 hl652_4
                     have HR652_5 := am hi652_5
                     have HC652_5 := am hl652_5
                     clear hi652_5 hl652_5
                     have HR652_6 := am hi652_6
                     have HC652_6 := am hl652_6
                     clear hi652_6 hl652_6
                     replace p652 := eq_true p652
                     replace q652 := eq_true q652
                     have p653 : 0 ≤ (((rd_T44 l3 x11_1).f3) : Int) := ud
                     have q653 : ((rd_T44 l3 x11_1).f3) < (((rd_T28 l0 ((rd_T44 l3 x11_1).f2)).f3).length : Int) := ud
                     obtain ⟨ad653, e653, hx653_0, hx653_1, hx653_2, hx653_3, hx653_4, hx653_5, hx653_6, hx653_7⟩ := at_T35 HR652_3.out ((rd_T44 l3 x11_1).f3) p653 q653
                     cases e653
                     replace hx653_0 := bcel HB hx653_0
                     replace hx653_1 := bcel HB hx653_1
                     replace hx653_2 := bcel HB hx653_2
                     replace hx653_3 := bcel HB hx653_3
                     replace hx653_4 := bcel HB hx653_4
                     replace hx653_5 := bcel HB hx653_5
                     replace hx653_6 := bcel HB hx653_6
                     replace hx653_7 := bcel HB hx653_7
                     replace p653 := eq_true p653
                     replace q653 := eq_true q653
                     go_wp2
                     repeat (go_quiet (fail); try go_wp2)
                     go_meet
                     case rel => exact ⟨_, (false), uf, (by first | exact H' | (rw [← Nbq31.out]; exact H')), ⟨by have := HK1.out; have := HJ12.out; have := HK3.out; have := HJ24.out; have := HJ40.out; first | omega | exact Nat.le_refl _⟩, ⟨ua HO_13.out⟩, ⟨by (with_reducible repeat (first | refine blk_drewN ?_ _ | refine blk_drew ?_ | refine blk_alloc ?_ _)); first | exact BK645.out | (rw [← Nbq31.out]; exact BK645.out)⟩, ⟨by (with_reducible repeat (first | refine blk_drewN ?_ _ | refine blk_drew ?_ | refine blk_alloc ?_ _)); first | exact BK651.out | (rw [← Nbq31.out]; exact BK651.out)⟩, ⟨uc HB.out⟩⟩
                   ·rw [if_neg c51] at H
                    have c51b0 : ((rd_T37 t646 x15_3).f5) = false := by simpa using c51
                    clear c51
                    have H' := am H
                    clear H
                    have hnb68 := NB645_651.out
                    have hnc68 := NB651_645.out
                    obtain ⟨hcz69_0, hcz69_1, hcz69_2, hcz69_3, hfz69_0, hfz69_1, hfz69_2, hfz69_3⟩ := cl4 BK645
                    obtain ⟨hcz70_0, hcz70_1, hcz70_2, hcz70_3, hcz70_4, hcz70_5, hfz70_0, hfz70_1, hfz70_2, hfz70_3, hfz70_4, hfz70_5⟩ := cl6 BK651
                    go_wp2
                    repeat (go_quiet (fail); try go_wp2)
                    go_meet
                    case rel => exact ⟨_, (false), uf, (by first | exact H' | (rw [← Nbq31.out]; exact H')), ⟨by have := HK1.out; have := HJ12.out; have := HK3.out; have := HJ24.out; have := HJ40.out; first | omega | exact Nat.le_refl _⟩, ⟨ua HO_13.out⟩, ⟨by (with_reducible repeat (first | refine blk_drewN ?_ _ | refine blk_drew ?_ | refine blk_alloc ?_ _)); first | exact BK645.out | (rw [← Nbq31.out]; exact BK645.out)⟩, ⟨by (with_reducible repeat (first | refine blk_drewN ?_ _ | refine blk_drew ?_ | refine blk_alloc ?_ _)); first | exact BK651.out | (rw [← Nbq31.out]; exact BK651.out)⟩, ⟨uc HB.out⟩⟩
                  ·rw [if_neg c50] at H
                   have c50b0 : decide (0 ≤ ((rd_T44 l3 x11_1).f2)) = false := decide_eq_false c50
                   clear c50
                   (first | rw [c50b0] | (simp only [i64_w, i32_w]; rw [c50b0]) | skip)
                   have H' := am H
                   clear H
                   have hnb71 := NB645_651.out
                   have hnc71 := NB651_645.out
                   obtain ⟨hcz72_0, hcz72_1, hcz72_2, hcz72_3, hfz72_0, hfz72_1, hfz72_2, hfz72_3⟩ := cl4 BK645
                   go_wp2
                   repeat (go_quiet (fail); try go_wp2)
                   go_meet
                   case rel => exact ⟨_, (false), uf, (by first | exact H' | (rw [← Nbq31.out]; exact H')), ⟨by have := HK1.out; have := HJ12.out; have := HK3.out; have := HJ24.out; have := HJ40.out; first | omega | exact Nat.le_refl _⟩, ⟨ua HO_13.out⟩, ⟨by (with_reducible repeat (first | refine blk_drewN ?_ _ | refine blk_drew ?_ | refine blk_alloc ?_ _)); first | exact BK645.out | (rw [← Nbq31.out]; exact BK645.out)⟩, ⟨by (with_reducible repeat (first | refine blk_drewN ?_ _ | refine blk_drew ?_ | refine blk_alloc ?_ _)); first | exact BK651.out | (rw [← Nbq31.out]; exact BK651.out)⟩, ⟨uc HB.out⟩⟩
                 case rest =>
                  clear HC49
                  obtain ⟨kq, x122_48, rfl, HA, HJ48, HO_13, BK645, BK651, HB⟩ := hcut
                  cases kq with
                  | zero => exact absurd HA.out (by simp [curtilagelaw18_TableLess.j5])
                  | succ kj48 =>
                   have H := HA.out
                   clear HA
                   simp only [curtilagelaw18_TableLess.j5] at H
                   as_aux_lemma =>
                    by_cases c73 : x122_48 = true
                    ·subst c73
                     have H1 : (some false) = some r := by rw [if_pos rfl] at H; exact H
                     clear H
                     have H := H1
                     clear H1
                     exact absurd ((Option.some.inj H).trans HT.out) (by decide)
                    ·replace c73 := Bool.eq_false_iff.mpr c73
                     subst c73
                     have H1 : (if ((rd_T44 l3 x11_1).f2) ≥ 0 then (if ((rd_T37 t646 x15_3).f5) = true then (if 0 ≤ ((rd_T44 l3 x11_1).f2) then (if ((rd_T44 l3 x11_1).f2) < (l0.length : Int) then (if 0 ≤ ((rd_T44 l3 x11_1).f3) then (if ((rd_T44 l3 x11_1).f3) < (((rd_T28 l0 ((rd_T44 l3 x11_1).f2)).f3).length : Int) then (if ((rd_T35 ((rd_T28 l0 ((rd_T44 l3 x11_1).f2)).f3) ((rd_T44 l3 x11_1).f3)).f4) = 2 then (if ((rd_T37 t646 x15_3).f4) = (-1) then (if (IntKind.u64.wrap (((rd_T37 t646 x15_3).f1) - ((rd_T37 t646 x15_3).f0))) = ((rd_T35 ((rd_T28 l0 ((rd_T44 l3 x11_1).f2)).f3) ((rd_T44 l3 x11_1).f3)).f3) then (curtilagelaw18_TableLess.l1 kj48 l0 l1 l2 l3 t642 x11_1 t646 (wrap64 (x15_3 + 1)) ((rd_T44 l3 x11_1).f0) ((rd_T44 l3 x11_1).f1) ((rd_T44 l3 x11_1).f2) ((rd_T44 l3 x11_1).f3)) else (some false)) else (some false)) else (curtilagelaw18_TableLess.l1 kj48 l0 l1 l2 l3 t642 x11_1 t646 (wrap64 (x15_3 + 1)) ((rd_T44 l3 x11_1).f0) ((rd_T44 l3 x11_1).f1) ((rd_T44 l3 x11_1).f2) ((rd_T44 l3 x11_1).f3))) else (none)) else (none)) else (none)) else (none)) else (curtilagelaw18_TableLess.l1 kj48 l0 l1 l2 l3 t642 x11_1 t646 (wrap64 (x15_3 + 1)) ((rd_T44 l3 x11_1).f0) ((rd_T44 l3 x11_1).f1) ((rd_T44 l3 x11_1).f2) ((rd_T44 l3 x11_1).f3))) else (curtilagelaw18_TableLess.l1 kj48 l0 l1 l2 l3 t642 x11_1 t646 (wrap64 (x15_3 + 1)) ((rd_T44 l3 x11_1).f0) ((rd_T44 l3 x11_1).f1) ((rd_T44 l3 x11_1).f2) ((rd_T44 l3 x11_1).f3))) = some r := by rw [if_neg (show ¬ (false = true) by decide)] at H; exact H
                     clear H
                     have H := H1
                     clear H1
                     by_cases c74 : ((rd_T44 l3 x11_1).f2) ≥ 0
                     ·rw [if_pos c74] at H
                      have c74b0 : decide (0 ≤ ((rd_T44 l3 x11_1).f2)) = true := decide_eq_true c74
                      clear c74
                      by_cases c75 : ((rd_T37 t646 x15_3).f5) = true
                      ·rw [if_pos c75] at H
                       have c75b0 : ((rd_T37 t646 x15_3).f5) = true := c75
                       clear c75
                       obtain ⟨c76, H⟩ := ic H
                       have c76b0 : decide (0 ≤ ((rd_T44 l3 x11_1).f2)) = true := decide_eq_true c76
                       clear c76
                       obtain ⟨c77, H⟩ := ic H
                       have c77b0 : decide (((rd_T44 l3 x11_1).f2) < (l0.length : Int)) = true := decide_eq_true c77
                       clear c77
                       obtain ⟨c78, H⟩ := ic H
                       have c78b0 : decide (0 ≤ ((rd_T44 l3 x11_1).f3)) = true := decide_eq_true c78
                       clear c78
                       obtain ⟨c79, H⟩ := ic H
                       have c79b0 : decide (((rd_T44 l3 x11_1).f3) < (((rd_T28 l0 ((rd_T44 l3 x11_1).f2)).f3).length : Int)) = true := decide_eq_true c79
                       clear c79
                       by_cases c80 : ((rd_T35 ((rd_T28 l0 ((rd_T44 l3 x11_1).f2)).f3) ((rd_T44 l3 x11_1).f3)).f4) = 2
                       ·rw [if_pos c80] at H
                        have c80b0 := beq_iff_eq.mpr c80
                        have c80b1 := bne_eq_false_iff_eq.mpr c80
                        clear c80
                        by_cases c81 : ((rd_T37 t646 x15_3).f4) = (-1)
                        ·rw [if_pos c81] at H
                         have c81b0 := beq_iff_eq.mpr c81
                         have c81b1 := bne_eq_false_iff_eq.mpr c81
                         clear c81
                         by_cases c82 : (IntKind.u64.wrap (((rd_T37 t646 x15_3).f1) - ((rd_T37 t646 x15_3).f0))) = ((rd_T35 ((rd_T28 l0 ((rd_T44 l3 x11_1).f2)).f3) ((rd_T44 l3 x11_1).f3)).f3)
                         ·rw [if_pos c82] at H
                          have c82b0 := beq_iff_eq.mpr c82
                          have c82b1 := bne_eq_false_iff_eq.mpr c82
                          clear c82
                          have H' := am H
                          clear H
                          have hnb83 := NB645_651.out
                          have hnc83 := NB651_645.out
                          obtain ⟨hcz84_0, hcz84_1, hcz84_2, hcz84_3, hfz84_0, hfz84_1, hfz84_2, hfz84_3⟩ := cl4 BK645
                          obtain ⟨hcz85_0, hcz85_1, hcz85_2, hcz85_3, hcz85_4, hcz85_5, hfz85_0, hfz85_1, hfz85_2, hfz85_3, hfz85_4, hfz85_5⟩ := cl6 BK651
                          have p655 : 0 ≤ (((rd_T44 l3 x11_1).f2) : Int) := ud
                          have q655 : ((rd_T44 l3 x11_1).f2) < (l0.length : Int) := ud
                          obtain ⟨ad655, A655_1, c655_1, A655_2, c655_2, A655_3, c655_3, A655_4, c655_4, A655_5, c655_5, A655_6, c655_6, e655, hx655_0, hx655_1, hx655_2, hx655_3, hx655_4, hx655_5, hx655_6, hl655_1, hi655_1, hl655_2, hi655_2, hl655_3, hi655_3, hl655_4, hi655_4, hl655_5, hi655_5, hl655_6, hi655_6⟩ := at_T28 HR0.out ((rd_T44 l3 x11_1).f2) p655 q655
                          cases e655
                          replace hx655_0 := bcel HB hx655_0
                          replace hx655_1 := bcel HB hx655_1
                          replace hx655_2 := bcel HB hx655_2
                          replace hx655_3 := bcel HB hx655_3
                          replace hx655_4 := bcel HB hx655_4
                          replace hx655_5 := bcel HB hx655_5
                          replace hx655_6 := bcel HB hx655_6
                          have HR655_1 := am hi655_1
                          have HC655_1 := am hl655_1
                          clear hi655_1 hl655_1
                          have HR655_2 := am hi655_2
                          have HC655_2 := am hl655_2
                          clear hi655_2 hl655_2
                          have HR655_3 := am hi655_3
                          have HC655_3 := am hl655_3
                          clear hi655_3 hl655_3
                          have HR655_4 := am hi655_4
                          have HC655_4 := am hl655_4
                          clear hi655_4 hl655_4
                          have HR655_5 := am hi655_5
                          have HC655_5 := am hl655_5
                          clear hi655_5 hl655_5
                          have HR655_6 := am hi655_6
                          have HC655_6 := am hl655_6
                          clear hi655_6 hl655_6
                          replace p655 := eq_true p655
                          replace q655 := eq_true q655
                          have p656 : 0 ≤ (((rd_T44 l3 x11_1).f3) : Int) := ud
                          have q656 : ((rd_T44 l3 x11_1).f3) < (((rd_T28 l0 ((rd_T44 l3 x11_1).f2)).f3).length : Int) := ud
                          obtain ⟨ad656, e656, hx656_0, hx656_1, hx656_2, hx656_3, hx656_4, hx656_5, hx656_6, hx656_7⟩ := at_T35 HR655_3.out ((rd_T44 l3 x11_1).f3) p656 q656
                          cases e656
                          replace hx656_0 := bcel HB hx656_0
                          replace hx656_1 := bcel HB hx656_1
                          replace hx656_2 := bcel HB hx656_2
                          replace hx656_3 := bcel HB hx656_3
                          replace hx656_4 := bcel HB hx656_4
                          replace hx656_5 := bcel HB hx656_5
                          replace hx656_6 := bcel HB hx656_6
                          replace hx656_7 := bcel HB hx656_7
                          replace p656 := eq_true p656
                          replace q656 := eq_true q656
                          have p657 : 0 ≤ (((rd_T44 l3 x11_1).f2) : Int) := ud
                          have q657 : ((rd_T44 l3 x11_1).f2) < (l0.length : Int) := ud
                          obtain ⟨ad657, A657_1, c657_1, A657_2, c657_2, A657_3, c657_3, A657_4, c657_4, A657_5, c657_5, A657_6, c657_6, e657, hx657_0, hx657_1, hx657_2, hx657_3, hx657_4, hx657_5, hx657_6, hl657_1, hi657_1, hl657_2, hi657_2, hl657_3, hi657_3, hl657_4, hi657_4, hl657_5, hi657_5, hl657_6, hi657_6⟩ := at_T28 HR0.out ((rd_T44 l3 x11_1).f2) p657 q657
                          obtain rfl : ad655 = ad657 := (by injection e657)
                          replace hx657_0 := bcel HB hx657_0
                          replace hx657_1 := bcel HB hx657_1
                          replace hx657_2 := bcel HB hx657_2
                          replace hx657_3 := bcel HB hx657_3
                          replace hx657_4 := bcel HB hx657_4
                          replace hx657_5 := bcel HB hx657_5
                          replace hx657_6 := bcel HB hx657_6
                          have HR657_1 := am hi657_1
                          have HC657_1 := am hl657_1
                          clear hi657_1 hl657_1
                          have HR657_2 := am hi657_2
                          have HC657_2 := am hl657_2
                          clear hi657_2 hl657_2
                          have HR657_3 := am hi657_3
                          have HC657_3 := am hl657_3
                          clear hi657_3 hl657_3
                          have HR657_4 := am hi657_4
                          have HC657_4 := am hl657_4
                          clear hi657_4 hl657_4
                          have HR657_5 := am hi657_5
                          have HC657_5 := am hl657_5
                          clear hi657_5 hl657_5
                          have HR657_6 := am hi657_6
                          have HC657_6 := am hl657_6
                          clear hi657_6 hl657_6
                          replace p657 := eq_true p657
                          replace q657 := eq_true q657
                          have ea_ := Option.some.inj (hx655_1.symm.trans hx657_1)
                          injection ea_ with ea_ en_ ec_
                          subst ea_
                          subst ec_
                          clear en_
                          have ea_ := Option.some.inj (hx655_2.symm.trans hx657_2)
                          injection ea_ with ea_ en_ ec_
                          subst ea_
                          subst ec_
                          clear en_
                          have ea_ := Option.some.inj (hx655_3.symm.trans hx657_3)
                          injection ea_ with ea_ en_ ec_
                          subst ea_
                          subst ec_
                          clear en_
                          have ea_ := Option.some.inj (hx655_4.symm.trans hx657_4)
                          injection ea_ with ea_ en_ ec_
                          subst ea_
                          subst ec_
                          clear en_
                          have ea_ := Option.some.inj (hx655_5.symm.trans hx657_5)
                          injection ea_ with ea_ en_ ec_
                          subst ea_
                          subst ec_
                          clear en_
                          have ea_ := Option.some.inj (hx655_6.symm.trans hx657_6)
                          injection ea_ with ea_ en_ ec_
                          subst ea_
                          subst ec_
                          clear en_
                          have p658 : 0 ≤ (((rd_T44 l3 x11_1).f3) : Int) := ud
                          have q658 : ((rd_T44 l3 x11_1).f3) < (((rd_T28 l0 ((rd_T44 l3 x11_1).f2)).f3).length : Int) := ud
                          obtain ⟨ad658, e658, hx658_0, hx658_1, hx658_2, hx658_3, hx658_4, hx658_5, hx658_6, hx658_7⟩ := at_T35 HR657_3.out ((rd_T44 l3 x11_1).f3) p658 q658
                          cases e658
                          replace hx658_0 := bcel HB hx658_0
                          replace hx658_1 := bcel HB hx658_1
                          replace hx658_2 := bcel HB hx658_2
                          replace hx658_3 := bcel HB hx658_3
                          replace hx658_4 := bcel HB hx658_4
                          replace hx658_5 := bcel HB hx658_5
                          replace hx658_6 := bcel HB hx658_6
                          replace hx658_7 := bcel HB hx658_7
                          replace p658 := eq_true p658
                          replace q658 := eq_true q658
                          go_wp2
                          repeat (go_quiet (fail); try go_wp2)
                          go_roundg kj48
                          case measure => have := HK1.out; have := HJ12.out; have := HK3.out; have := HJ24.out; have := HJ40.out; have := HJ48.out; omega
                          case rel => exact ⟨(wrap64 (x15_3 + 1)), uf, (by first | exact H' | (rw [← Nbq31.out]; exact H')), ⟨by have := HK1.out; have := HJ12.out; have := HK3.out; have := HJ24.out; have := HJ40.out; have := HJ48.out; omega⟩, ⟨by (with_reducible repeat (first | apply Kd.R_alloc | apply Kd.R_drewN | apply Kd.R_drew)); exact Kd.R_mono HO_13.out (fun _ hk => trivial)⟩, ⟨by (with_reducible repeat (first | refine blk_drewN ?_ _ | refine blk_drew ?_ | refine blk_alloc ?_ _)); first | exact BK645.out | (rw [← Nbq31.out]; exact BK645.out)⟩, ⟨uc HB.out⟩⟩
                         ·rw [if_neg c82] at H
                          have c82b0 := beq_eq_false_iff_ne.mpr c82
                          have c82b1 := bne_iff_ne.mpr c82
                          exact absurd ((Option.some.inj H).trans HT.out) (by decide)
                        ·rw [if_neg c81] at H
                         have c81b0 := beq_eq_false_iff_ne.mpr c81
                         have c81b1 := bne_iff_ne.mpr c81
                         exact absurd ((Option.some.inj H).trans HT.out) (by decide)
                       ·rw [if_neg c80] at H
                        have c80b0 := beq_eq_false_iff_ne.mpr c80
                        have c80b1 := bne_iff_ne.mpr c80
                        have H' := am H
                        clear H
                        have hnb92 := NB645_651.out
                        have hnc92 := NB651_645.out
                        obtain ⟨hcz93_0, hcz93_1, hcz93_2, hcz93_3, hfz93_0, hfz93_1, hfz93_2, hfz93_3⟩ := cl4 BK645
                        obtain ⟨hcz94_0, hcz94_1, hcz94_2, hcz94_3, hcz94_4, hcz94_5, hfz94_0, hfz94_1, hfz94_2, hfz94_3, hfz94_4, hfz94_5⟩ := cl6 BK651
                        have p655 : 0 ≤ (((rd_T44 l3 x11_1).f2) : Int) := ud
                        have q655 : ((rd_T44 l3 x11_1).f2) < (l0.length : Int) := ud
                        obtain ⟨ad655, A655_1, c655_1, A655_2, c655_2, A655_3, c655_3, A655_4, c655_4, A655_5, c655_5, A655_6, c655_6, e655, hx655_0, hx655_1, hx655_2, hx655_3, hx655_4, hx655_5, hx655_6, hl655_1, hi655_1, hl655_2, hi655_2, hl655_3, hi655_3, hl655_4, hi655_4, hl655_5, hi655_5, hl655_6, hi655_6⟩ := at_T28 HR0.out ((rd_T44 l3 x11_1).f2) p655 q655
                        cases e655
                        replace hx655_0 := bcel HB hx655_0
                        replace hx655_1 := bcel HB hx655_1
                        replace hx655_2 := bcel HB hx655_2
                        replace hx655_3 := bcel HB hx655_3
                        replace hx655_4 := bcel HB hx655_4
                        replace hx655_5 := bcel HB hx655_5
                        replace hx655_6 := bcel HB hx655_6
                        have HR655_1 := am hi655_1
                        have HC655_1 := am hl655_1
                        clear hi655_1 hl655_1
                        have HR655_2 := am hi655_2
                        have HC655_2 := am hl655_2
                        clear hi655_2 hl655_2
                        have HR655_3 := am hi655_3
                        have HC655_3 := am hl655_3
                        clear hi655_3 hl655_3
                        have HR655_4 := am hi655_4
                        have HC655_4 := am hl655_4
                        clear hi655_4 hl655_4
                        have HR655_5 := am hi655_5
                        have HC655_5 := am hl655_5
                        clear hi655_5 hl655_5
                        have HR655_6 := am hi655_6
                        have HC655_6 := am hl655_6
                        clear hi655_6 hl655_6
                        replace p655 := eq_true p655
                        replace q655 := eq_true q655
                        have p656 : 0 ≤ (((rd_T44 l3 x11_1).f3) : Int) := ud
                        have q656 : ((rd_T44 l3 x11_1).f3) < (((rd_T28 l0 ((rd_T44 l3 x11_1).f2)).f3).length : Int) := ud
                        obtain ⟨ad656, e656, hx656_0, hx656_1, hx656_2, hx656_3, hx656_4, hx656_5, hx656_6, hx656_7⟩ := at_T35 HR655_3.out ((rd_T44 l3 x11_1).f3) p656 q656
                        cases e656
                        replace hx656_0 := bcel HB hx656_0
                        replace hx656_1 := bcel HB hx656_1
                        replace hx656_2 := bcel HB hx656_2
                        replace hx656_3 := bcel HB hx656_3
                        replace hx656_4 := bcel HB hx656_4
                        replace hx656_5 := bcel HB hx656_5
                        replace hx656_6 := bcel HB hx656_6
                        replace hx656_7 := bcel HB hx656_7
                        replace p656 := eq_true p656
                        replace q656 := eq_true q656
                        go_wp2
                        repeat (go_quiet (fail); try go_wp2)
                        go_roundg kj48
                        case measure => have := HK1.out; have := HJ12.out; have := HK3.out; have := HJ24.out; have := HJ40.out; have := HJ48.out; omega
                        case rel => exact ⟨(wrap64 (x15_3 + 1)), uf, (by first | exact H' | (rw [← Nbq31.out]; exact H')), ⟨by have := HK1.out; have := HJ12.out; have := HK3.out; have := HJ24.out; have := HJ40.out; have := HJ48.out; omega⟩, ⟨by (with_reducible repeat (first | apply Kd.R_alloc | apply Kd.R_drewN | apply Kd.R_drew)); exact Kd.R_mono HO_13.out (fun _ hk => trivial)⟩, ⟨by (with_reducible repeat (first | refine blk_drewN ?_ _ | refine blk_drew ?_ | refine blk_alloc ?_ _)); first | exact BK645.out | (rw [← Nbq31.out]; exact BK645.out)⟩, ⟨uc HB.out⟩⟩
                      ·rw [if_neg c75] at H
                       have c75b0 : ((rd_T37 t646 x15_3).f5) = false := by simpa using c75
                       clear c75
                       have H' := am H
                       clear H
                       have hnb95 := NB645_651.out
                       have hnc95 := NB651_645.out
                       obtain ⟨hcz96_0, hcz96_1, hcz96_2, hcz96_3, hfz96_0, hfz96_1, hfz96_2, hfz96_3⟩ := cl4 BK645
                       obtain ⟨hcz97_0, hcz97_1, hcz97_2, hcz97_3, hcz97_4, hcz97_5, hfz97_0, hfz97_1, hfz97_2, hfz97_3, hfz97_4, hfz97_5⟩ := cl6 BK651
                       go_wp2
                       repeat (go_quiet (fail); try go_wp2)
                       go_roundg kj48
                       case measure => have := HK1.out; have := HJ12.out; have := HK3.out; have := HJ24.out; have := HJ40.out; have := HJ48.out; omega
                       case rel => exact ⟨(wrap64 (x15_3 + 1)), uf, (by first | exact H' | (rw [← Nbq31.out]; exact H')), ⟨by have := HK1.out; have := HJ12.out; have := HK3.out; have := HJ24.out; have := HJ40.out; have := HJ48.out; omega⟩, ⟨by (with_reducible repeat (first | apply Kd.R_alloc | apply Kd.R_drewN | apply Kd.R_drew)); exact Kd.R_mono HO_13.out (fun _ hk => trivial)⟩, ⟨by (with_reducible repeat (first | refine blk_drewN ?_ _ | refine blk_drew ?_ | refine blk_alloc ?_ _)); first | exact BK645.out | (rw [← Nbq31.out]; exact BK645.out)⟩, ⟨uc HB.out⟩⟩
                     ·rw [if_neg c74] at H
                      have c74b0 : decide (0 ≤ ((rd_T44 l3 x11_1).f2)) = false := decide_eq_false c74
                      clear c74
                      have H' := am H
                      clear H
                      have hnb98 := NB645_651.out
                      have hnc98 := NB651_645.out
                      obtain ⟨hcz99_0, hcz99_1, hcz99_2, hcz99_3, hfz99_0, hfz99_1, hfz99_2, hfz99_3⟩ := cl4 BK645
                      go_wp2
                      repeat (go_quiet (fail); try go_wp2)
                      go_roundg kj48
                      case measure => have := HK1.out; have := HJ12.out; have := HK3.out; have := HJ24.out; have := HJ40.out; have := HJ48.out; omega
                      case rel => exact ⟨(wrap64 (x15_3 + 1)), uf, (by first | exact H' | (rw [← Nbq31.out]; exact H')), ⟨by have := HK1.out; have := HJ12.out; have := HK3.out; have := HJ24.out; have := HJ40.out; have := HJ48.out; omega⟩, ⟨by (with_reducible repeat (first | apply Kd.R_alloc | apply Kd.R_drewN | apply Kd.R_drew)); exact Kd.R_mono HO_13.out (fun _ hk => trivial)⟩, ⟨by (with_reducible repeat (first | refine blk_drewN ?_ _ | refine blk_drew ?_ | refine blk_alloc ?_ _)); first | exact BK645.out | (rw [← Nbq31.out]; exact BK645.out)⟩, ⟨uc HB.out⟩⟩
          ·rw [if_neg c23] at H
           have c23b0 := decide_eq_false c23
           clear c23
           have H' := am H
           clear H
           obtain ⟨Ao100, co100, eo100⟩ := Kd.R_slice HO_13.out
           subst eo100
           go_wp2
           repeat (go_quiet (fail); try go_wp2)
           go_roundg k3
           case measure => have := HK1.out; have := HJ12.out; have := HK3.out; omega
           case rel => exact ⟨(wrap64 (x11_1 + 1)), uf, (by first | exact H' | (rw [← Nbq31.out]; exact H')), ⟨by have := HK1.out; have := HJ12.out; have := HK3.out; omega⟩, ⟨uc HB.out⟩⟩
    ·rw [if_neg c10] at H
     have c10b0 := decide_eq_false c10
     clear c10
     obtain rfl := Option.some.inj H
     go_wp2
     repeat (go_quiet (fail); try go_wp2)
     go_ret
     exact ur (uc HB.out)
 ·replace c7 := Bool.eq_false_iff.mpr c7
  subst c7
  have H1 : (some t642) = some r := by rw [if_neg (show ¬ (false = true) by decide)] at H; exact H
  clear H
  have H := H1
  clear H1
  obtain rfl := Option.some.inj H
  go_enter Try.func4, Try.ntmps4
  go_wp2_with (first | (go_at_call 6; (with_reducible refine (curtilagelaw18_awake.calls k  t642 _ A5.out).mono ?_); rintro e w101 ⟨rfl, hb⟩; have n0_ := bs HB hb; revert n0_; clear HB; intro HB; (try clear hb)) | (go_at_call 7; (with_reducible refine (curtilageref18_Right.calls k _ _ l0 _ _ l1 _ _ l2 _ _ l3 false _ ?side1 ?side2 ?side3 ?side4 ?side5 ?side6 ?side7 ?side8 A6.out).mono ?_); (case side1 => exact us (Kd.C_below HR0.out HB.out)); (case side2 => exact HC0.out); (case side3 => exact us (Kd.C_below HR1.out HB.out)); (case side4 => exact HC1.out); (case side5 => exact us (Kd.C_below HR2.out HB.out)); (case side6 => exact HC2.out); (case side7 => exact us (Kd.C_below HR3.out HB.out)); (case side8 => exact HC3.out); rintro e w102 ⟨rfl, hb⟩; have n0_ := bs HB hb; revert n0_; clear HB; intro HB; (try clear hb)))
  repeat (go_quiet (first | (go_at_call 6; (with_reducible refine (curtilagelaw18_awake.calls k  t642 _ A5.out).mono ?_); rintro e w101 ⟨rfl, hb⟩; have n0_ := bs HB hb; revert n0_; clear HB; intro HB; (try clear hb)) | (go_at_call 7; (with_reducible refine (curtilageref18_Right.calls k _ _ l0 _ _ l1 _ _ l2 _ _ l3 false _ ?side1 ?side2 ?side3 ?side4 ?side5 ?side6 ?side7 ?side8 A6.out).mono ?_); (case side1 => exact us (Kd.C_below HR0.out HB.out)); (case side2 => exact HC0.out); (case side3 => exact us (Kd.C_below HR1.out HB.out)); (case side4 => exact HC1.out); (case side5 => exact us (Kd.C_below HR2.out HB.out)); (case side6 => exact HC2.out); (case side7 => exact us (Kd.C_below HR3.out HB.out)); (case side8 => exact HC3.out); rintro e w102 ⟨rfl, hb⟩; have n0_ := bs HB hb; revert n0_; clear HB; intro HB; (try clear hb))); try go_wp2_with (first | (go_at_call 6; (with_reducible refine (curtilagelaw18_awake.calls k  t642 _ A5.out).mono ?_); rintro e w101 ⟨rfl, hb⟩; have n0_ := bs HB hb; revert n0_; clear HB; intro HB; (try clear hb)) | (go_at_call 7; (with_reducible refine (curtilageref18_Right.calls k _ _ l0 _ _ l1 _ _ l2 _ _ l3 false _ ?side1 ?side2 ?side3 ?side4 ?side5 ?side6 ?side7 ?side8 A6.out).mono ?_); (case side1 => exact us (Kd.C_below HR0.out HB.out)); (case side2 => exact HC0.out); (case side3 => exact us (Kd.C_below HR1.out HB.out)); (case side4 => exact HC1.out); (case side5 => exact us (Kd.C_below HR2.out HB.out)); (case side6 => exact HC2.out); (case side7 => exact us (Kd.C_below HR3.out HB.out)); (case side8 => exact HC3.out); rintro e w102 ⟨rfl, hb⟩; have n0_ := bs HB hb; revert n0_; clear HB; intro HB; (try clear hb))))
  go_ret
  exact ur (uc HB.out)

end Go.Proofs.Ytlbfeklpncoccaa.P
