/- What functions of the program, and of its laws, give, each proved of its code by a walk; no condition. -/
import Derived.Test.YtndmfjdoekdleaaKGraphMorePx0
import Derived.Test.YtndmfjdoekdleaaKGraphMorePx1
import Derived.Test.YtndmfjdoekdleaaKGraphMorePx3
import Derived.Test.YtndmfjdoekdleaaKGraphMorePx4
import Derived.Test.YtndmfjdoekdleaaKGraphMorePx6
import Derived.Test.YtndmfjdoekdleaaKGraphMorePx8
import Derived.Test.YtndmfjdoekdleaaKGraphMorePx9
import Derived.Test.YtndmfjdoekdleaaKGraphMorePx10
namespace Go.Proofs.Ytndmfjdoekdleaa.P
open Go.RowKit Go.Proofs.YtndmfjdoekdleaaW.PrintWords Go.Proofs.YtndmfjdoekdleaaW.PrintLast Go.Proofs.YtndmfjdoekdleaaW.PrintMore
attribute [local go_sem] max2_int min2_int max_two min_two max_three min_three max_four min_four   -- for this text's walks alone
set_option linter.unusedVariables false
set_option linter.unusedSimpArgs false

mutual
def curtilagelaw13_GraphBehind.j0 : Nat → List (S29) → Bool → List Int → List Int → List Int → Bool → Option (Bool)
  | 0, _, _, _, _, _, _ => none
  | k + 1, x0, x5, x7, x10, x11, x51 => if x51 = true then (some false) else (curtilagelaw13_GraphBehind.l0 k x0 x5 x7 x10 x11 0)
def curtilagelaw13_GraphBehind.l0 : Nat → List (S29) → Bool → List Int → List Int → List Int → Int → Option (Bool)
  | 0, _, _, _, _, _, _ => none
  | k + 1, x0, x5, x7, x10, x11, x13 => if x13 < (x10.length : Int) then (curtilagelaw13_GraphBehind.l1 k x0 x5 x7 x10 x11 x13 (wrap64 (x13 + 1))) else (if x5 = true then (some ((x10.length : Int) == (x7.length : Int))) else (some false))
def curtilagelaw13_GraphBehind.l1 : Nat → List (S29) → Bool → List Int → List Int → List Int → Int → Int → Option (Bool)
  | 0, _, _, _, _, _, _, _ => none
  | k + 1, x0, x5, x7, x10, x11, x13, x14 => if x14 < (x10.length : Int) then (if 0 ≤ x13 then (if x13 < (x10.length : Int) then (if 0 ≤ x14 then ((curtilageref13_Needs.f k x0 (rd x10 x13) (rd x10 x14)).bind fun t389 => ((curtilageref13_Reach.f k x0 (rd x10 x14)).bind fun t391 => ((curtilageref13_Has.f k t391 (rd x10 x13)).bind fun t395 => (if t389 = true then (if t395 = true then (curtilagelaw13_GraphBehind.l1 k x0 x5 x7 x10 x11 x13 (wrap64 (x14 + 1))) else (some false)) else (curtilagelaw13_GraphBehind.l1 k x0 x5 x7 x10 x11 x13 (wrap64 (x14 + 1))))))) else (none)) else (none)) else (none)) else (if 0 ≤ (wrap64 ((wrap64 ((x11.length : Int) - 1)) - x13)) then (if (wrap64 ((wrap64 ((x11.length : Int) - 1)) - x13)) < (x11.length : Int) then (if 0 ≤ x13 then (if x13 < (x10.length : Int) then (if (rd x11 (wrap64 ((wrap64 ((x11.length : Int) - 1)) - x13))) = (rd x10 x13) then (curtilagelaw13_GraphBehind.l0 k x0 x5 x7 x10 x11 (wrap64 (x13 + 1))) else (some false)) else (none)) else (none)) else (none)) else (none))
end
def curtilagelaw13_GraphBehind.f (k : Nat) (l0 : List (S29)) (a1 : ByteArray) : Option (Bool) := (curtilagelaw13_awake.f k).bind fun t371 => ((curtilageref13_Short.f k l0 12).bind fun t372 => (if t372 = true then ((graph_Closure.f l0 a1).bind fun bt373 => (if bt373.2.2 = 0 then ((graph_Begin.f l0 bt373.1).bind fun t378 => ((graph_End.f k l0 bt373.1).bind fun t381 => ((curtilageref13_Right.f k t378 (l0.length : Int)).bind fun t384 => (if t384 = true then (curtilagelaw13_GraphBehind.j0 k l0 t371 bt373.1 t378 t381 ((t378.length : Int) != (t381.length : Int))) else (curtilagelaw13_GraphBehind.j0 k l0 t371 bt373.1 t378 t381 true))))) else (some t371))) else (some t371)))
theorem curtilagelaw13_GraphBehind.mono_l : ∀ k, (∀ y0 y1 y2 y3 y4 y5, LeO (curtilagelaw13_GraphBehind.j0 k y0 y1 y2 y3 y4 y5) (curtilagelaw13_GraphBehind.j0 (k + 1) y0 y1 y2 y3 y4 y5)) ∧ (∀ y0 y1 y2 y3 y4 y5, LeO (curtilagelaw13_GraphBehind.l0 k y0 y1 y2 y3 y4 y5) (curtilagelaw13_GraphBehind.l0 (k + 1) y0 y1 y2 y3 y4 y5)) ∧ (∀ y0 y1 y2 y3 y4 y5 y6, LeO (curtilagelaw13_GraphBehind.l1 k y0 y1 y2 y3 y4 y5 y6) (curtilagelaw13_GraphBehind.l1 (k + 1) y0 y1 y2 y3 y4 y5 y6))
  | 0 => ⟨fun _ _ _ _ _ _ r h => by simp [curtilagelaw13_GraphBehind.j0] at h, fun _ _ _ _ _ _ r h => by simp [curtilagelaw13_GraphBehind.l0] at h, fun _ _ _ _ _ _ _ r h => by simp [curtilagelaw13_GraphBehind.l1] at h⟩
  | k + 1 => by
    obtain ⟨ih0, ih1, ih2⟩ := curtilagelaw13_GraphBehind.mono_l k
    refine ⟨?_, ?_, ?_⟩
    · intro y0 y1 y2 y3 y4 y5
      unfold curtilagelaw13_GraphBehind.j0
      repeat' first
      | (with_reducible exact ih0 _ _ _ _ _ _)
      | (with_reducible exact ih1 _ _ _ _ _ _)
      | (with_reducible exact ih2 _ _ _ _ _ _ _)
      | (with_reducible exact curtilagelaw13_awake.mono _)
      | (with_reducible exact curtilageref13_Has.mono _ _ _)
      | (with_reducible exact curtilageref13_Needs.mono _ _ _ _)
      | (with_reducible exact curtilageref13_Reach.mono _ _ _)
      | (with_reducible exact curtilageref13_Right.mono _ _ _)
      | (with_reducible exact curtilageref13_Short.mono _ _ _)
      | (with_reducible exact graph_End.mono _ _ _)
      | (with_reducible exact LeO.refl _)
      | (with_reducible exact LeO.none _)
      | (with_reducible refine LeO.ite ?_ ?_)
      | (with_reducible refine LeO.bind ?_ (fun _ => ?_))
      | exact ih0 _ _ _ _ _ _
      | exact ih1 _ _ _ _ _ _
      | exact ih2 _ _ _ _ _ _ _
      | exact curtilagelaw13_awake.mono _
      | exact curtilageref13_Has.mono _ _ _
      | exact curtilageref13_Needs.mono _ _ _ _
      | exact curtilageref13_Reach.mono _ _ _
      | exact curtilageref13_Right.mono _ _ _
      | exact curtilageref13_Short.mono _ _ _
      | exact graph_End.mono _ _ _
      | exact LeO.none _
      | refine LeO.ite ?_ ?_
      | refine LeO.bind ?_ (fun _ => ?_)
    · intro y0 y1 y2 y3 y4 y5
      unfold curtilagelaw13_GraphBehind.l0
      repeat' first
      | (with_reducible exact ih0 _ _ _ _ _ _)
      | (with_reducible exact ih1 _ _ _ _ _ _)
      | (with_reducible exact ih2 _ _ _ _ _ _ _)
      | (with_reducible exact curtilagelaw13_awake.mono _)
      | (with_reducible exact curtilageref13_Has.mono _ _ _)
      | (with_reducible exact curtilageref13_Needs.mono _ _ _ _)
      | (with_reducible exact curtilageref13_Reach.mono _ _ _)
      | (with_reducible exact curtilageref13_Right.mono _ _ _)
      | (with_reducible exact curtilageref13_Short.mono _ _ _)
      | (with_reducible exact graph_End.mono _ _ _)
      | (with_reducible exact LeO.refl _)
      | (with_reducible exact LeO.none _)
      | (with_reducible refine LeO.ite ?_ ?_)
      | (with_reducible refine LeO.bind ?_ (fun _ => ?_))
      | exact ih0 _ _ _ _ _ _
      | exact ih1 _ _ _ _ _ _
      | exact ih2 _ _ _ _ _ _ _
      | exact curtilagelaw13_awake.mono _
      | exact curtilageref13_Has.mono _ _ _
      | exact curtilageref13_Needs.mono _ _ _ _
      | exact curtilageref13_Reach.mono _ _ _
      | exact curtilageref13_Right.mono _ _ _
      | exact curtilageref13_Short.mono _ _ _
      | exact graph_End.mono _ _ _
      | exact LeO.none _
      | refine LeO.ite ?_ ?_
      | refine LeO.bind ?_ (fun _ => ?_)
    · intro y0 y1 y2 y3 y4 y5 y6
      unfold curtilagelaw13_GraphBehind.l1
      repeat' first
      | (with_reducible exact ih0 _ _ _ _ _ _)
      | (with_reducible exact ih1 _ _ _ _ _ _)
      | (with_reducible exact ih2 _ _ _ _ _ _ _)
      | (with_reducible exact curtilagelaw13_awake.mono _)
      | (with_reducible exact curtilageref13_Has.mono _ _ _)
      | (with_reducible exact curtilageref13_Needs.mono _ _ _ _)
      | (with_reducible exact curtilageref13_Reach.mono _ _ _)
      | (with_reducible exact curtilageref13_Right.mono _ _ _)
      | (with_reducible exact curtilageref13_Short.mono _ _ _)
      | (with_reducible exact graph_End.mono _ _ _)
      | (with_reducible exact LeO.refl _)
      | (with_reducible exact LeO.none _)
      | (with_reducible refine LeO.ite ?_ ?_)
      | (with_reducible refine LeO.bind ?_ (fun _ => ?_))
      | exact ih0 _ _ _ _ _ _
      | exact ih1 _ _ _ _ _ _
      | exact ih2 _ _ _ _ _ _ _
      | exact curtilagelaw13_awake.mono _
      | exact curtilageref13_Has.mono _ _ _
      | exact curtilageref13_Needs.mono _ _ _ _
      | exact curtilageref13_Reach.mono _ _ _
      | exact curtilageref13_Right.mono _ _ _
      | exact curtilageref13_Short.mono _ _ _
      | exact graph_End.mono _ _ _
      | exact LeO.none _
      | refine LeO.ite ?_ ?_
      | refine LeO.bind ?_ (fun _ => ?_)
theorem curtilagelaw13_GraphBehind.mono : ∀ a0 a1 k, LeO (curtilagelaw13_GraphBehind.f k a0 a1) (curtilagelaw13_GraphBehind.f (k + 1) a0 a1) := by
  intro a0 a1 k
  obtain ⟨ih0, ih1, ih2⟩ := curtilagelaw13_GraphBehind.mono_l k
  unfold curtilagelaw13_GraphBehind.f
  repeat' first
      | (with_reducible exact ih0 _ _ _ _ _ _)
      | (with_reducible exact ih1 _ _ _ _ _ _)
      | (with_reducible exact ih2 _ _ _ _ _ _ _)
      | (with_reducible exact curtilagelaw13_awake.mono _)
      | (with_reducible exact curtilageref13_Has.mono _ _ _)
      | (with_reducible exact curtilageref13_Needs.mono _ _ _ _)
      | (with_reducible exact curtilageref13_Reach.mono _ _ _)
      | (with_reducible exact curtilageref13_Right.mono _ _ _)
      | (with_reducible exact curtilageref13_Short.mono _ _ _)
      | (with_reducible exact graph_End.mono _ _ _)
      | (with_reducible exact LeO.refl _)
      | (with_reducible exact LeO.none _)
      | (with_reducible refine LeO.ite ?_ ?_)
      | (with_reducible refine LeO.bind ?_ (fun _ => ?_))
      | exact ih0 _ _ _ _ _ _
      | exact ih1 _ _ _ _ _ _
      | exact ih2 _ _ _ _ _ _ _
      | exact curtilagelaw13_awake.mono _
      | exact curtilageref13_Has.mono _ _ _
      | exact curtilageref13_Needs.mono _ _ _ _
      | exact curtilageref13_Reach.mono _ _ _
      | exact curtilageref13_Right.mono _ _ _
      | exact curtilageref13_Short.mono _ _ _
      | exact graph_End.mono _ _ _
      | exact LeO.none _
      | refine LeO.ite ?_ ?_
      | refine LeO.bind ?_ (fun _ => ?_)
end Go.Proofs.Ytndmfjdoekdleaa.P
