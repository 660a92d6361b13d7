/- What functions of the program, and of its laws, give, each proved of its code by a walk; no condition. -/
import Derived.Test.YtndmfjdoekdleaaKGraphMorePx0
import Derived.Test.YtndmfjdoekdleaaKGraphMorePx1
import Derived.Test.YtndmfjdoekdleaaKGraphMorePx3
import Derived.Test.YtndmfjdoekdleaaKGraphMorePx4
import Derived.Test.YtndmfjdoekdleaaKGraphMorePx6
import Derived.Test.YtndmfjdoekdleaaKGraphMorePx8
import Derived.Test.YtndmfjdoekdleaaKGraphMorePx10
import Derived.Test.YtndmfjdoekdleaaKGraphMorePx12
namespace Go.Proofs.Ytndmfjdoekdleaa.P
open Go.RowKit Go.Proofs.YtndmfjdoekdleaaW.PrintWords Go.Proofs.YtndmfjdoekdleaaW.PrintLast Go.Proofs.YtndmfjdoekdleaaW.PrintMore
attribute [local go_sem] max2_int min2_int max_two min_two max_three min_three max_four min_four   -- for this text's walks alone
set_option linter.unusedVariables false
set_option linter.unusedSimpArgs false

def curtilagelaw13_GraphCloses.f (k : Nat) (l0 : List (S29)) (a1 : ByteArray) (a2 : Int) : Option (Bool) := (curtilagelaw13_awake.f k).bind fun t422 => ((curtilageref13_Short.f k l0 20).bind fun t423 => (if t423 = true then ((graph_Closure.f l0 a1).bind fun bt424 => ((curtilageref13_Closure.f k l0 a1).bind fun bt429 => ((graph_Reach.f k l0 a2).bind fun t434 => ((graph_Find.f l0 a1).bind fun t437 => (if t422 = true then (if bt424.2.2 = bt429.2.2 then (if bt424.2.1.toList = bt429.2.1.toList then ((curtilageref10_Numbers.f k bt424.1 bt429.1).bind fun t438 => (if t438 = true then ((curtilageref13_Reach.f k l0 a2).bind fun t439 => ((curtilageref10_Numbers.f k t434 t439).bind fun t442 => (if t442 = true then ((curtilageref13_Find.f k l0 a1).bind fun t443 => (some (t437 == t443))) else (some false)))) else (some false))) else (some false)) else (some false)) else (some false)))))) else (some t422)))
theorem curtilagelaw13_GraphCloses.mono : ∀ a0 a1 a2 k, LeO (curtilagelaw13_GraphCloses.f k a0 a1 a2) (curtilagelaw13_GraphCloses.f (k + 1) a0 a1 a2) := by
  intro a0 a1 a2 k
  unfold curtilagelaw13_GraphCloses.f
  repeat' first
      | (with_reducible exact curtilagelaw13_awake.mono _)
      | (with_reducible exact curtilageref10_Numbers.mono _ _ _)
      | (with_reducible exact curtilageref13_Closure.mono _ _ _)
      | (with_reducible exact curtilageref13_Find.mono _ _ _)
      | (with_reducible exact curtilageref13_Reach.mono _ _ _)
      | (with_reducible exact curtilageref13_Short.mono _ _ _)
      | (with_reducible exact graph_Reach.mono _ _ _)
      | (with_reducible exact LeO.refl _)
      | (with_reducible exact LeO.none _)
      | (with_reducible refine LeO.ite ?_ ?_)
      | (with_reducible refine LeO.bind ?_ (fun _ => ?_))
      | exact curtilagelaw13_awake.mono _
      | exact curtilageref10_Numbers.mono _ _ _
      | exact curtilageref13_Closure.mono _ _ _
      | exact curtilageref13_Find.mono _ _ _
      | exact curtilageref13_Reach.mono _ _ _
      | exact curtilageref13_Short.mono _ _ _
      | exact graph_Reach.mono _ _ _
      | exact LeO.none _
      | refine LeO.ite ?_ ?_
      | refine LeO.bind ?_ (fun _ => ?_)
def curtilagelaw13_GraphAll.l0 : Nat → Bool → List Int → List Int → List Int → Bool → Bool → Int → Option (Bool)
  | 0, _, _, _, _, _, _, _ => none
  | k + 1, x5, x7, x10, x11, x12, x13, x14 => if x14 < (x10.length : Int) then (if 0 ≤ x14 then ((curtilageref13_Has.f k x7 (rd x10 x14)).bind fun t461 => ((curtilageref13_Has.f k x11 (rd x10 x14)).bind fun t463 => (if t461 = true then (if t463 = true then (curtilagelaw13_GraphAll.l0 k x5 x7 x10 x11 x12 x13 (wrap64 (x14 + 1))) else (some false)) else (some false)))) else (none)) else (if x5 = true then (if x12 = true then (if x13 = true then (if (x10.length : Int) = (x7.length : Int) then (some ((x11.length : Int) == (x7.length : Int))) else (some false)) else (some false)) else (some false)) else (some false))
def curtilagelaw13_GraphAll.f (k : Nat) (l0 : List (S29)) (a1 : ByteArray) : Option (Bool) := (curtilagelaw13_awake.f k).bind fun t444 => ((curtilageref13_Short.f k l0 20).bind fun t445 => (if t445 = true then ((graph_Closure.f l0 a1).bind fun bt446 => (if bt446.2.2 = 0 then (if (bt446.1.length : Int) = 0 then (some false) else (if 0 < (bt446.1.length : Int) then ((graph_Reach.f k l0 (rd bt446.1 0)).bind fun t452 => ((graph_Begin.f l0 bt446.1).bind fun t455 => ((curtilageref13_Right.f k bt446.1 (l0.length : Int)).bind fun t458 => ((curtilageref13_Right.f k t455 (l0.length : Int)).bind fun t459 => (curtilagelaw13_GraphAll.l0 k t444 bt446.1 t452 t455 t458 t459 0))))) else (none))) else (if t444 = true then (some ((bt446.1.length : Int) == 0)) else (some false)))) else (some t444)))
theorem curtilagelaw13_GraphAll.mono_l : ∀ k, (∀ y0 y1 y2 y3 y4 y5 y6, LeO (curtilagelaw13_GraphAll.l0 k y0 y1 y2 y3 y4 y5 y6) (curtilagelaw13_GraphAll.l0 (k + 1) y0 y1 y2 y3 y4 y5 y6))
  | 0 => fun _ _ _ _ _ _ _ r h => by simp [curtilagelaw13_GraphAll.l0] at h
  | k + 1 => by
    have ih0 := curtilagelaw13_GraphAll.mono_l k
    · intro y0 y1 y2 y3 y4 y5 y6
      unfold curtilagelaw13_GraphAll.l0
      repeat' first
      | (with_reducible exact ih0 _ _ _ _ _ _ _)
      | (with_reducible exact curtilagelaw13_awake.mono _)
      | (with_reducible exact curtilageref13_Has.mono _ _ _)
      | (with_reducible exact curtilageref13_Right.mono _ _ _)
      | (with_reducible exact curtilageref13_Short.mono _ _ _)
      | (with_reducible exact graph_Reach.mono _ _ _)
      | (with_reducible exact LeO.refl _)
      | (with_reducible exact LeO.none _)
      | (with_reducible refine LeO.ite ?_ ?_)
      | (with_reducible refine LeO.bind ?_ (fun _ => ?_))
      | exact ih0 _ _ _ _ _ _ _
      | exact curtilagelaw13_awake.mono _
      | exact curtilageref13_Has.mono _ _ _
      | exact curtilageref13_Right.mono _ _ _
      | exact curtilageref13_Short.mono _ _ _
      | exact graph_Reach.mono _ _ _
      | exact LeO.none _
      | refine LeO.ite ?_ ?_
      | refine LeO.bind ?_ (fun _ => ?_)
theorem curtilagelaw13_GraphAll.mono : ∀ a0 a1 k, LeO (curtilagelaw13_GraphAll.f k a0 a1) (curtilagelaw13_GraphAll.f (k + 1) a0 a1) := by
  intro a0 a1 k
  have ih0 := curtilagelaw13_GraphAll.mono_l k
  unfold curtilagelaw13_GraphAll.f
  repeat' first
      | (with_reducible exact ih0 _ _ _ _ _ _ _)
      | (with_reducible exact curtilagelaw13_awake.mono _)
      | (with_reducible exact curtilageref13_Has.mono _ _ _)
      | (with_reducible exact curtilageref13_Right.mono _ _ _)
      | (with_reducible exact curtilageref13_Short.mono _ _ _)
      | (with_reducible exact graph_Reach.mono _ _ _)
      | (with_reducible exact LeO.refl _)
      | (with_reducible exact LeO.none _)
      | (with_reducible refine LeO.ite ?_ ?_)
      | (with_reducible refine LeO.bind ?_ (fun _ => ?_))
      | exact ih0 _ _ _ _ _ _ _
      | exact curtilagelaw13_awake.mono _
      | exact curtilageref13_Has.mono _ _ _
      | exact curtilageref13_Right.mono _ _ _
      | exact curtilageref13_Short.mono _ _ _
      | exact graph_Reach.mono _ _ _
      | exact LeO.none _
      | refine LeO.ite ?_ ?_
      | refine LeO.bind ?_ (fun _ => ?_)
end Go.Proofs.Ytndmfjdoekdleaa.P
