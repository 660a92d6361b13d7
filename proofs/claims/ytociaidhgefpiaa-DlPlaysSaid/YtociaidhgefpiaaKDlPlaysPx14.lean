/- What functions of the program, and of its laws, give, each proved of its code by a walk; no condition. -/
import Derived.Test.YtociaidhgefpiaaKDlPlaysPx0
import Derived.Test.YtociaidhgefpiaaKDlPlaysPx1
import Derived.Test.YtociaidhgefpiaaKDlPlaysPx10
import Derived.Test.YtociaidhgefpiaaKDlPlaysPx11
import Derived.Test.YtociaidhgefpiaaKDlPlaysPx12
import Derived.Test.YtociaidhgefpiaaKDlPlaysPx13
import Derived.Test.YtociaidhgefpiaaKDlPlaysSq
import Derived.Test.YtociaidhgefpiaaKDlPlaysUsh
namespace Go.Proofs.Ytociaidhgefpiaa.P
open Go.RowKit Go.Proofs.YtociaidhgefpiaaW.PrintWords Go.Proofs.YtociaidhgefpiaaW.PrintLast Go.Proofs.YtociaidhgefpiaaW.PrintMore
attribute [local go_sem] max2_int min2_int max_two min_two max_three min_three max_four min_four   -- for this text's walks alone
set_option linter.unusedVariables false
set_option linter.unusedSimpArgs false

mutual
def curtilagelaw21_DlNeeded.j0 : Nat → List (S38) → ByteArray → List (S58) → Bool → Bool → Option (Bool)
  | 0, _, _, _, _, _ => none
  | k + 1, x0, x1, x2, x7, x25 => if x25 = true then (some x7) else ((curtilagelaw21_made.f k x0 x1 x2).bind fun bt432 => (if bt432.2.2 = true then ((curtilageref13_Right.f k bt432.1 (x0.length : Int)).bind fun t440 => (if t440 = true then (curtilagelaw21_DlNeeded.j1 k x0 x1 x7 ((bt432.2.1.length : Int) == 0) bt432.1 bt432.2.1) else (curtilagelaw21_DlNeeded.j1 k x0 x1 x7 true bt432.1 bt432.2.1))) else (some x7)))
def curtilagelaw21_DlNeeded.j1 : Nat → List (S38) → ByteArray → Bool → Bool → List Int → List Int → Option (Bool)
  | 0, _, _, _, _, _, _ => none
  | k + 1, x0, x1, x7, x49, x440000, x440001 => if x49 = true then (some false) else (curtilagelaw21_DlNeeded.l0 k x0 x1 x7 0 x440000 x440001)
def curtilagelaw21_DlNeeded.l0 : Nat → List (S38) → ByteArray → Bool → Int → List Int → List Int → Option (Bool)
  | 0, _, _, _, _, _, _ => none
  | k + 1, x0, x1, x7, x12, x440000, x440001 => if x12 < (x440001.length : Int) then (if 0 ≤ x12 then (if (rd x440001 x12) < 0 then (some false) else (if (rd x440001 x12) ≥ (x0.length : Int) then (some false) else (curtilagelaw21_DlNeeded.l0 k x0 x1 x7 (wrap64 (x12 + 1)) x440000 x440001))) else (none)) else (curtilagelaw21_DlNeeded.l1 k x0 x1 x7 0 x440000 x440001)
def curtilagelaw21_DlNeeded.l1 : Nat → List (S38) → ByteArray → Bool → Int → List Int → List Int → Option (Bool)
  | 0, _, _, _, _, _, _ => none
  | k + 1, x0, x1, x7, x13, x440000, x440001 => if x13 < (x0.length : Int) then ((curtilageref13_Has.f k x440000 x13).bind fun t445 => ((curtilageref21_Needed.f k x0 x440001 x13).bind fun t446 => (if (t445 != t446) = true then (some false) else (curtilagelaw21_DlNeeded.l1 k x0 x1 x7 (wrap64 (x13 + 1)) x440000 x440001)))) else (if x7 = true then (if 0 < (x440001.length : Int) then (if 0 ≤ (rd x440001 0) then (if (rd x440001 0) < (x0.length : Int) then (some (((rd_T38 x0 (rd x440001 0)).f0).toList == x1.toList)) else (none)) else (none)) else (none)) else (some false))
end
def curtilagelaw21_DlNeeded.f (k : Nat) (l0 : List (S38)) (a1 : ByteArray) (l2 : List (S58)) : Option (Bool) := (curtilagelaw21_awake.f k).bind fun t430 => ((curtilageref13_Short.f k l0 12).bind fun t431 => (if t431 = true then (curtilagelaw21_DlNeeded.j0 k l0 a1 l2 t430 (decide ((l2.length : Int) > 40))) else (curtilagelaw21_DlNeeded.j0 k l0 a1 l2 t430 true)))
theorem curtilagelaw21_DlNeeded.mono_l : ∀ k, (∀ y0 y1 y2 y3 y4, LeO (curtilagelaw21_DlNeeded.j0 k y0 y1 y2 y3 y4) (curtilagelaw21_DlNeeded.j0 (k + 1) y0 y1 y2 y3 y4)) ∧ (∀ y0 y1 y2 y3 y4 y5, LeO (curtilagelaw21_DlNeeded.j1 k y0 y1 y2 y3 y4 y5) (curtilagelaw21_DlNeeded.j1 (k + 1) y0 y1 y2 y3 y4 y5)) ∧ (∀ y0 y1 y2 y3 y4 y5, LeO (curtilagelaw21_DlNeeded.l0 k y0 y1 y2 y3 y4 y5) (curtilagelaw21_DlNeeded.l0 (k + 1) y0 y1 y2 y3 y4 y5)) ∧ (∀ y0 y1 y2 y3 y4 y5, LeO (curtilagelaw21_DlNeeded.l1 k y0 y1 y2 y3 y4 y5) (curtilagelaw21_DlNeeded.l1 (k + 1) y0 y1 y2 y3 y4 y5))
  | 0 => ⟨fun _ _ _ _ _ r h => by simp [curtilagelaw21_DlNeeded.j0] at h, fun _ _ _ _ _ _ r h => by simp [curtilagelaw21_DlNeeded.j1] at h, fun _ _ _ _ _ _ r h => by simp [curtilagelaw21_DlNeeded.l0] at h, fun _ _ _ _ _ _ r h => by simp [curtilagelaw21_DlNeeded.l1] at h⟩
  | k + 1 => by
    obtain ⟨ih0, ih1, ih2, ih3⟩ := curtilagelaw21_DlNeeded.mono_l k
    refine ⟨?_, ?_, ?_, ?_⟩
    · intro y0 y1 y2 y3 y4
      unfold curtilagelaw21_DlNeeded.j0
      repeat' first
      | (with_reducible exact ih0 _ _ _ _ _)
      | (with_reducible exact ih1 _ _ _ _ _ _)
      | (with_reducible exact ih2 _ _ _ _ _ _)
      | (with_reducible exact ih3 _ _ _ _ _ _)
      | (with_reducible exact curtilagelaw21_awake.mono _)
      | (with_reducible exact curtilagelaw21_made.mono _ _ _ _)
      | (with_reducible exact curtilageref13_Has.mono _ _ _)
      | (with_reducible exact curtilageref13_Right.mono _ _ _)
      | (with_reducible exact curtilageref13_Short.mono _ _ _)
      | (with_reducible exact curtilageref21_Needed.mono _ _ _ _)
      | (with_reducible exact LeO.refl _)
      | (with_reducible exact LeO.none _)
      | (with_reducible refine LeO.ite ?_ ?_)
      | (with_reducible refine LeO.bind ?_ (fun _ => ?_))
      | exact ih0 _ _ _ _ _
      | exact ih1 _ _ _ _ _ _
      | exact ih2 _ _ _ _ _ _
      | exact ih3 _ _ _ _ _ _
      | exact curtilagelaw21_awake.mono _
      | exact curtilagelaw21_made.mono _ _ _ _
      | exact curtilageref13_Has.mono _ _ _
      | exact curtilageref13_Right.mono _ _ _
      | exact curtilageref13_Short.mono _ _ _
      | exact curtilageref21_Needed.mono _ _ _ _
      | exact LeO.none _
      | refine LeO.ite ?_ ?_
      | refine LeO.bind ?_ (fun _ => ?_)
    · intro y0 y1 y2 y3 y4 y5
      unfold curtilagelaw21_DlNeeded.j1
      repeat' first
      | (with_reducible exact ih0 _ _ _ _ _)
      | (with_reducible exact ih1 _ _ _ _ _ _)
      | (with_reducible exact ih2 _ _ _ _ _ _)
      | (with_reducible exact ih3 _ _ _ _ _ _)
      | (with_reducible exact curtilagelaw21_awake.mono _)
      | (with_reducible exact curtilagelaw21_made.mono _ _ _ _)
      | (with_reducible exact curtilageref13_Has.mono _ _ _)
      | (with_reducible exact curtilageref13_Right.mono _ _ _)
      | (with_reducible exact curtilageref13_Short.mono _ _ _)
      | (with_reducible exact curtilageref21_Needed.mono _ _ _ _)
      | (with_reducible exact LeO.refl _)
      | (with_reducible exact LeO.none _)
      | (with_reducible refine LeO.ite ?_ ?_)
      | (with_reducible refine LeO.bind ?_ (fun _ => ?_))
      | exact ih0 _ _ _ _ _
      | exact ih1 _ _ _ _ _ _
      | exact ih2 _ _ _ _ _ _
      | exact ih3 _ _ _ _ _ _
      | exact curtilagelaw21_awake.mono _
      | exact curtilagelaw21_made.mono _ _ _ _
      | exact curtilageref13_Has.mono _ _ _
      | exact curtilageref13_Right.mono _ _ _
      | exact curtilageref13_Short.mono _ _ _
      | exact curtilageref21_Needed.mono _ _ _ _
      | exact LeO.none _
      | refine LeO.ite ?_ ?_
      | refine LeO.bind ?_ (fun _ => ?_)
    · intro y0 y1 y2 y3 y4 y5
      unfold curtilagelaw21_DlNeeded.l0
      repeat' first
      | (with_reducible exact ih0 _ _ _ _ _)
      | (with_reducible exact ih1 _ _ _ _ _ _)
      | (with_reducible exact ih2 _ _ _ _ _ _)
      | (with_reducible exact ih3 _ _ _ _ _ _)
      | (with_reducible exact curtilagelaw21_awake.mono _)
      | (with_reducible exact curtilagelaw21_made.mono _ _ _ _)
      | (with_reducible exact curtilageref13_Has.mono _ _ _)
      | (with_reducible exact curtilageref13_Right.mono _ _ _)
      | (with_reducible exact curtilageref13_Short.mono _ _ _)
      | (with_reducible exact curtilageref21_Needed.mono _ _ _ _)
      | (with_reducible exact LeO.refl _)
      | (with_reducible exact LeO.none _)
      | (with_reducible refine LeO.ite ?_ ?_)
      | (with_reducible refine LeO.bind ?_ (fun _ => ?_))
      | exact ih0 _ _ _ _ _
      | exact ih1 _ _ _ _ _ _
      | exact ih2 _ _ _ _ _ _
      | exact ih3 _ _ _ _ _ _
      | exact curtilagelaw21_awake.mono _
      | exact curtilagelaw21_made.mono _ _ _ _
      | exact curtilageref13_Has.mono _ _ _
      | exact curtilageref13_Right.mono _ _ _
      | exact curtilageref13_Short.mono _ _ _
      | exact curtilageref21_Needed.mono _ _ _ _
      | exact LeO.none _
      | refine LeO.ite ?_ ?_
      | refine LeO.bind ?_ (fun _ => ?_)
    · intro y0 y1 y2 y3 y4 y5
      unfold curtilagelaw21_DlNeeded.l1
      repeat' first
      | (with_reducible exact ih0 _ _ _ _ _)
      | (with_reducible exact ih1 _ _ _ _ _ _)
      | (with_reducible exact ih2 _ _ _ _ _ _)
      | (with_reducible exact ih3 _ _ _ _ _ _)
      | (with_reducible exact curtilagelaw21_awake.mono _)
      | (with_reducible exact curtilagelaw21_made.mono _ _ _ _)
      | (with_reducible exact curtilageref13_Has.mono _ _ _)
      | (with_reducible exact curtilageref13_Right.mono _ _ _)
      | (with_reducible exact curtilageref13_Short.mono _ _ _)
      | (with_reducible exact curtilageref21_Needed.mono _ _ _ _)
      | (with_reducible exact LeO.refl _)
      | (with_reducible exact LeO.none _)
      | (with_reducible refine LeO.ite ?_ ?_)
      | (with_reducible refine LeO.bind ?_ (fun _ => ?_))
      | exact ih0 _ _ _ _ _
      | exact ih1 _ _ _ _ _ _
      | exact ih2 _ _ _ _ _ _
      | exact ih3 _ _ _ _ _ _
      | exact curtilagelaw21_awake.mono _
      | exact curtilagelaw21_made.mono _ _ _ _
      | exact curtilageref13_Has.mono _ _ _
      | exact curtilageref13_Right.mono _ _ _
      | exact curtilageref13_Short.mono _ _ _
      | exact curtilageref21_Needed.mono _ _ _ _
      | exact LeO.none _
      | refine LeO.ite ?_ ?_
      | refine LeO.bind ?_ (fun _ => ?_)
theorem curtilagelaw21_DlNeeded.mono : ∀ a0 a1 a2 k, LeO (curtilagelaw21_DlNeeded.f k a0 a1 a2) (curtilagelaw21_DlNeeded.f (k + 1) a0 a1 a2) := by
  intro a0 a1 a2 k
  obtain ⟨ih0, ih1, ih2, ih3⟩ := curtilagelaw21_DlNeeded.mono_l k
  unfold curtilagelaw21_DlNeeded.f
  repeat' first
      | (with_reducible exact ih0 _ _ _ _ _)
      | (with_reducible exact ih1 _ _ _ _ _ _)
      | (with_reducible exact ih2 _ _ _ _ _ _)
      | (with_reducible exact ih3 _ _ _ _ _ _)
      | (with_reducible exact curtilagelaw21_awake.mono _)
      | (with_reducible exact curtilagelaw21_made.mono _ _ _ _)
      | (with_reducible exact curtilageref13_Has.mono _ _ _)
      | (with_reducible exact curtilageref13_Right.mono _ _ _)
      | (with_reducible exact curtilageref13_Short.mono _ _ _)
      | (with_reducible exact curtilageref21_Needed.mono _ _ _ _)
      | (with_reducible exact LeO.refl _)
      | (with_reducible exact LeO.none _)
      | (with_reducible refine LeO.ite ?_ ?_)
      | (with_reducible refine LeO.bind ?_ (fun _ => ?_))
      | exact ih0 _ _ _ _ _
      | exact ih1 _ _ _ _ _ _
      | exact ih2 _ _ _ _ _ _
      | exact ih3 _ _ _ _ _ _
      | exact curtilagelaw21_awake.mono _
      | exact curtilagelaw21_made.mono _ _ _ _
      | exact curtilageref13_Has.mono _ _ _
      | exact curtilageref13_Right.mono _ _ _
      | exact curtilageref13_Short.mono _ _ _
      | exact curtilageref21_Needed.mono _ _ _ _
      | exact LeO.none _
      | refine LeO.ite ?_ ?_
      | refine LeO.bind ?_ (fun _ => ?_)
end Go.Proofs.Ytociaidhgefpiaa.P
