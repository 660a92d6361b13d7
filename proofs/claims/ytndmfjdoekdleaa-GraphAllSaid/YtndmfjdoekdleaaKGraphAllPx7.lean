/- What functions of the program, and of its laws, give, each proved of its code by a walk; no condition. -/
import Derived.Test.YtndmfjdoekdleaaKGraphAllPx0
import Derived.Test.YtndmfjdoekdleaaKGraphAllPx1
import Derived.Test.YtndmfjdoekdleaaKGraphAllPx2
import Derived.Test.YtndmfjdoekdleaaKGraphAllPx3
import Derived.Test.YtndmfjdoekdleaaKGraphAllPx6
namespace Go.Proofs.Ytndmfjdoekdleaa.P
open Go.RowKit Go.Proofs.YtndmfjdoekdleaaW.PrintWords Go.Proofs.YtndmfjdoekdleaaW.PrintLast Go.Proofs.YtndmfjdoekdleaaW.PrintMore
attribute [local go_sem] max2_int min2_int max_two min_two max_three min_three max_four min_four   -- for this text's walks alone
set_option linter.unusedVariables false
set_option linter.unusedSimpArgs false

def graph_End.f (k : Nat) (l0 : List (S29)) (l1 : List Int) : Option (List Int) := (graph_Begin.f l0 l1).bind fun t325 => ((slices_Reverse_int_int.f k t325).bind fun t328 => (some t328))
theorem graph_End.mono : ∀ a0 a1 k, LeO (graph_End.f k a0 a1) (graph_End.f (k + 1) a0 a1) := by
  intro a0 a1 k
  unfold graph_End.f
  repeat' first
      | (with_reducible exact slices_Reverse_int_int.mono _ _)
      | (with_reducible exact LeO.refl _)
      | (with_reducible exact LeO.none _)
      | (with_reducible refine LeO.ite ?_ ?_)
      | (with_reducible refine LeO.bind ?_ (fun _ => ?_))
      | exact slices_Reverse_int_int.mono _ _
      | exact LeO.none _
      | refine LeO.ite ?_ ?_
      | refine LeO.bind ?_ (fun _ => ?_)
mutual
def curtilagelaw13_GraphBegins.j0 : Nat → List (S29) → List Int → Bool → Bool → Option (Bool)
  | 0, _, _, _, _ => none
  | k + 1, x0, x1, x5, x24 => if x24 = true then (some x5) else ((graph_Begin.f x0 x1).bind fun t332 => ((graph_End.f k x0 x1).bind fun t335 => ((curtilageref13_Begin.f x0 x1).bind fun t338 => (if (t335.length : Int) = (t338.length : Int) then (curtilagelaw13_GraphBegins.l0 k x5 t332 t335 t338 0) else (some false)))))
def curtilagelaw13_GraphBegins.l0 : Nat → Bool → List Int → List Int → List Int → Int → Option (Bool)
  | 0, _, _, _, _, _ => none
  | k + 1, x5, x8, x9, x10, x11 => if x11 < (x9.length : Int) then (if 0 ≤ x11 then (if 0 ≤ (wrap64 ((wrap64 ((x10.length : Int) - 1)) - x11)) then (if (wrap64 ((wrap64 ((x10.length : Int) - 1)) - x11)) < (x10.length : Int) then (if (rd x9 x11) = (rd x10 (wrap64 ((wrap64 ((x10.length : Int) - 1)) - x11))) then (curtilagelaw13_GraphBegins.l0 k x5 x8 x9 x10 (wrap64 (x11 + 1))) else (some false)) else (none)) else (none)) else (none)) else (if x5 = true then ((curtilageref10_Numbers.f k x8 x10).bind fun t343 => (some t343)) else (some false))
end
def curtilagelaw13_GraphBegins.f (k : Nat) (l0 : List (S29)) (l1 : List Int) : Option (Bool) := (curtilagelaw13_awake.f k).bind fun t329 => ((curtilageref13_Short.f k l0 20).bind fun t330 => ((curtilageref13_Right.f k l1 (l0.length : Int)).bind fun t331 => (if t330 = true then (curtilagelaw13_GraphBegins.j0 k l0 l1 t329 (!t331)) else (curtilagelaw13_GraphBegins.j0 k l0 l1 t329 true))))
theorem curtilagelaw13_GraphBegins.mono_l : ∀ k, (∀ y0 y1 y2 y3, LeO (curtilagelaw13_GraphBegins.j0 k y0 y1 y2 y3) (curtilagelaw13_GraphBegins.j0 (k + 1) y0 y1 y2 y3)) ∧ (∀ y0 y1 y2 y3 y4, LeO (curtilagelaw13_GraphBegins.l0 k y0 y1 y2 y3 y4) (curtilagelaw13_GraphBegins.l0 (k + 1) y0 y1 y2 y3 y4))
  | 0 => ⟨fun _ _ _ _ r h => by simp [curtilagelaw13_GraphBegins.j0] at h, fun _ _ _ _ _ r h => by simp [curtilagelaw13_GraphBegins.l0] at h⟩
  | k + 1 => by
    obtain ⟨ih0, ih1⟩ := curtilagelaw13_GraphBegins.mono_l k
    refine ⟨?_, ?_⟩
    · intro y0 y1 y2 y3
      unfold curtilagelaw13_GraphBegins.j0
      repeat' first
      | (with_reducible exact ih0 _ _ _ _)
      | (with_reducible exact ih1 _ _ _ _ _)
      | (with_reducible exact curtilagelaw13_awake.mono _)
      | (with_reducible exact curtilageref10_Numbers.mono _ _ _)
      | (with_reducible exact curtilageref13_Right.mono _ _ _)
      | (with_reducible exact curtilageref13_Short.mono _ _ _)
      | (with_reducible exact graph_End.mono _ _ _)
      | (with_reducible exact LeO.refl _)
      | (with_reducible exact LeO.none _)
      | (with_reducible refine LeO.ite ?_ ?_)
      | (with_reducible refine LeO.bind ?_ (fun _ => ?_))
      | exact ih0 _ _ _ _
      | exact ih1 _ _ _ _ _
      | exact curtilagelaw13_awake.mono _
      | exact curtilageref10_Numbers.mono _ _ _
      | exact curtilageref13_Right.mono _ _ _
      | exact curtilageref13_Short.mono _ _ _
      | exact graph_End.mono _ _ _
      | exact LeO.none _
      | refine LeO.ite ?_ ?_
      | refine LeO.bind ?_ (fun _ => ?_)
    · intro y0 y1 y2 y3 y4
      unfold curtilagelaw13_GraphBegins.l0
      repeat' first
      | (with_reducible exact ih0 _ _ _ _)
      | (with_reducible exact ih1 _ _ _ _ _)
      | (with_reducible exact curtilagelaw13_awake.mono _)
      | (with_reducible exact curtilageref10_Numbers.mono _ _ _)
      | (with_reducible exact curtilageref13_Right.mono _ _ _)
      | (with_reducible exact curtilageref13_Short.mono _ _ _)
      | (with_reducible exact graph_End.mono _ _ _)
      | (with_reducible exact LeO.refl _)
      | (with_reducible exact LeO.none _)
      | (with_reducible refine LeO.ite ?_ ?_)
      | (with_reducible refine LeO.bind ?_ (fun _ => ?_))
      | exact ih0 _ _ _ _
      | exact ih1 _ _ _ _ _
      | exact curtilagelaw13_awake.mono _
      | exact curtilageref10_Numbers.mono _ _ _
      | exact curtilageref13_Right.mono _ _ _
      | exact curtilageref13_Short.mono _ _ _
      | exact graph_End.mono _ _ _
      | exact LeO.none _
      | refine LeO.ite ?_ ?_
      | refine LeO.bind ?_ (fun _ => ?_)
theorem curtilagelaw13_GraphBegins.mono : ∀ a0 a1 k, LeO (curtilagelaw13_GraphBegins.f k a0 a1) (curtilagelaw13_GraphBegins.f (k + 1) a0 a1) := by
  intro a0 a1 k
  obtain ⟨ih0, ih1⟩ := curtilagelaw13_GraphBegins.mono_l k
  unfold curtilagelaw13_GraphBegins.f
  repeat' first
      | (with_reducible exact ih0 _ _ _ _)
      | (with_reducible exact ih1 _ _ _ _ _)
      | (with_reducible exact curtilagelaw13_awake.mono _)
      | (with_reducible exact curtilageref10_Numbers.mono _ _ _)
      | (with_reducible exact curtilageref13_Right.mono _ _ _)
      | (with_reducible exact curtilageref13_Short.mono _ _ _)
      | (with_reducible exact graph_End.mono _ _ _)
      | (with_reducible exact LeO.refl _)
      | (with_reducible exact LeO.none _)
      | (with_reducible refine LeO.ite ?_ ?_)
      | (with_reducible refine LeO.bind ?_ (fun _ => ?_))
      | exact ih0 _ _ _ _
      | exact ih1 _ _ _ _ _
      | exact curtilagelaw13_awake.mono _
      | exact curtilageref10_Numbers.mono _ _ _
      | exact curtilageref13_Right.mono _ _ _
      | exact curtilageref13_Short.mono _ _ _
      | exact graph_End.mono _ _ _
      | exact LeO.none _
      | refine LeO.ite ?_ ?_
      | refine LeO.bind ?_ (fun _ => ?_)
def curtilageref13_Needs.l0 : Nat → List (S29) → Int → Int → Int → Option (Bool)
  | 0, _, _, _, _ => none
  | k + 1, x0, x1, x2, x7 => if 0 ≤ x1 then (if x1 < (x0.length : Int) then (if x7 < (((rd_T29 x0 x1).f1).length : Int) then (if 0 ≤ x7 then ((curtilageref13_Find.f k x0 (rdOf ByteArray.empty ((rd_T29 x0 x1).f1) x7)).bind fun t347 => (if t347 = x2 then (some true) else (curtilageref13_Needs.l0 k x0 x1 x2 (wrap64 (x7 + 1))))) else (none)) else (some false)) else (none)) else (none)
def curtilageref13_Needs.f (k : Nat) (l0 : List (S29)) (a1 : Int) (a2 : Int) : Option (Bool) := curtilageref13_Needs.l0 k l0 a1 a2 0
theorem curtilageref13_Needs.mono_l : ∀ k, (∀ y0 y1 y2 y3, LeO (curtilageref13_Needs.l0 k y0 y1 y2 y3) (curtilageref13_Needs.l0 (k + 1) y0 y1 y2 y3))
  | 0 => fun _ _ _ _ r h => by simp [curtilageref13_Needs.l0] at h
  | k + 1 => by
    have ih0 := curtilageref13_Needs.mono_l k
    · intro y0 y1 y2 y3
      unfold curtilageref13_Needs.l0
      repeat' first
      | (with_reducible exact ih0 _ _ _ _)
      | (with_reducible exact curtilageref13_Find.mono _ _ _)
      | (with_reducible exact LeO.refl _)
      | (with_reducible exact LeO.none _)
      | (with_reducible refine LeO.ite ?_ ?_)
      | (with_reducible refine LeO.bind ?_ (fun _ => ?_))
      | exact ih0 _ _ _ _
      | exact curtilageref13_Find.mono _ _ _
      | exact LeO.none _
      | refine LeO.ite ?_ ?_
      | refine LeO.bind ?_ (fun _ => ?_)
theorem curtilageref13_Needs.mono : ∀ a0 a1 a2 k, LeO (curtilageref13_Needs.f k a0 a1 a2) (curtilageref13_Needs.f (k + 1) a0 a1 a2) := by
  intro a0 a1 a2 k
  have ih0 := curtilageref13_Needs.mono_l k
  unfold curtilageref13_Needs.f
  repeat' first
      | (with_reducible exact ih0 _ _ _ _)
      | (with_reducible exact curtilageref13_Find.mono _ _ _)
      | (with_reducible exact LeO.refl _)
      | (with_reducible exact LeO.none _)
      | (with_reducible refine LeO.ite ?_ ?_)
      | (with_reducible refine LeO.bind ?_ (fun _ => ?_))
      | exact ih0 _ _ _ _
      | exact curtilageref13_Find.mono _ _ _
      | exact LeO.none _
      | refine LeO.ite ?_ ?_
      | refine LeO.bind ?_ (fun _ => ?_)
end Go.Proofs.Ytndmfjdoekdleaa.P
