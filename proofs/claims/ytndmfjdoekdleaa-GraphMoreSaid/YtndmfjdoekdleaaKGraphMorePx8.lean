/- What functions of the program, and of its laws, give, each proved of its code by a walk; no condition. -/
import Derived.Test.YtndmfjdoekdleaaKGraphMorePx0
import Derived.Test.YtndmfjdoekdleaaKGraphMorePx1
import Derived.Test.YtndmfjdoekdleaaKGraphMorePx2
import Derived.Test.YtndmfjdoekdleaaKGraphMorePx3
import Derived.Test.YtndmfjdoekdleaaKGraphMorePx6
namespace Go.Proofs.Ytndmfjdoekdleaa.P
open Go.RowKit Go.Proofs.YtndmfjdoekdleaaW.PrintWords Go.Proofs.YtndmfjdoekdleaaW.PrintLast Go.Proofs.YtndmfjdoekdleaaW.PrintMore
attribute [local go_sem] max2_int min2_int max_two min_two max_three min_three max_four min_four   -- for this text's walks alone
set_option linter.unusedVariables false
set_option linter.unusedSimpArgs false

mutual
def curtilageref13_Right.l0 : Nat → List Int → Int → Int → Option (Bool)
  | 0, _, _, _ => none
  | k + 1, x0, x1, x5 => if x5 < (x0.length : Int) then (if 0 ≤ x5 then (if (rd x0 x5) < 0 then (curtilageref13_Right.j1 k x0 x1 x5 true) else (curtilageref13_Right.j1 k x0 x1 x5 (decide ((rd x0 x5) ≥ x1)))) else (none)) else (some true)
def curtilageref13_Right.j1 : Nat → List Int → Int → Int → Bool → Option (Bool)
  | 0, _, _, _, _ => none
  | k + 1, x0, x1, x5, x25 => if x25 = true then (some false) else (curtilageref13_Right.l1 k x0 x1 x5 0)
def curtilageref13_Right.l1 : Nat → List Int → Int → Int → Int → Option (Bool)
  | 0, _, _, _, _ => none
  | k + 1, x0, x1, x5, x6 => if x6 < x5 then (if 0 ≤ x6 then (if x6 < (x0.length : Int) then (if 0 ≤ x5 then (if x5 < (x0.length : Int) then (if (rd x0 x6) = (rd x0 x5) then (some false) else (curtilageref13_Right.l1 k x0 x1 x5 (wrap64 (x6 + 1)))) else (none)) else (none)) else (none)) else (none)) else (curtilageref13_Right.l0 k x0 x1 (wrap64 (x5 + 1)))
end
def curtilageref13_Right.f (k : Nat) (l0 : List Int) (a1 : Int) : Option (Bool) := curtilageref13_Right.l0 k l0 a1 0
theorem curtilageref13_Right.mono_l : ∀ k, (∀ y0 y1 y2, LeO (curtilageref13_Right.l0 k y0 y1 y2) (curtilageref13_Right.l0 (k + 1) y0 y1 y2)) ∧ (∀ y0 y1 y2 y3, LeO (curtilageref13_Right.j1 k y0 y1 y2 y3) (curtilageref13_Right.j1 (k + 1) y0 y1 y2 y3)) ∧ (∀ y0 y1 y2 y3, LeO (curtilageref13_Right.l1 k y0 y1 y2 y3) (curtilageref13_Right.l1 (k + 1) y0 y1 y2 y3))
  | 0 => ⟨fun _ _ _ r h => by simp [curtilageref13_Right.l0] at h, fun _ _ _ _ r h => by simp [curtilageref13_Right.j1] at h, fun _ _ _ _ r h => by simp [curtilageref13_Right.l1] at h⟩
  | k + 1 => by
    obtain ⟨ih0, ih1, ih2⟩ := curtilageref13_Right.mono_l k
    refine ⟨?_, ?_, ?_⟩
    · intro y0 y1 y2
      unfold curtilageref13_Right.l0
      repeat' first
      | (with_reducible exact ih0 _ _ _)
      | (with_reducible exact ih1 _ _ _ _)
      | (with_reducible exact ih2 _ _ _ _)
      | (with_reducible exact LeO.refl _)
      | (with_reducible exact LeO.none _)
      | (with_reducible refine LeO.ite ?_ ?_)
      | (with_reducible refine LeO.bind ?_ (fun _ => ?_))
      | exact ih0 _ _ _
      | exact ih1 _ _ _ _
      | exact ih2 _ _ _ _
      | exact LeO.none _
      | refine LeO.ite ?_ ?_
      | refine LeO.bind ?_ (fun _ => ?_)
    · intro y0 y1 y2 y3
      unfold curtilageref13_Right.j1
      repeat' first
      | (with_reducible exact ih0 _ _ _)
      | (with_reducible exact ih1 _ _ _ _)
      | (with_reducible exact ih2 _ _ _ _)
      | (with_reducible exact LeO.refl _)
      | (with_reducible exact LeO.none _)
      | (with_reducible refine LeO.ite ?_ ?_)
      | (with_reducible refine LeO.bind ?_ (fun _ => ?_))
      | exact ih0 _ _ _
      | exact ih1 _ _ _ _
      | exact ih2 _ _ _ _
      | exact LeO.none _
      | refine LeO.ite ?_ ?_
      | refine LeO.bind ?_ (fun _ => ?_)
    · intro y0 y1 y2 y3
      unfold curtilageref13_Right.l1
      repeat' first
      | (with_reducible exact ih0 _ _ _)
      | (with_reducible exact ih1 _ _ _ _)
      | (with_reducible exact ih2 _ _ _ _)
      | (with_reducible exact LeO.refl _)
      | (with_reducible exact LeO.none _)
      | (with_reducible refine LeO.ite ?_ ?_)
      | (with_reducible refine LeO.bind ?_ (fun _ => ?_))
      | exact ih0 _ _ _
      | exact ih1 _ _ _ _
      | exact ih2 _ _ _ _
      | exact LeO.none _
      | refine LeO.ite ?_ ?_
      | refine LeO.bind ?_ (fun _ => ?_)
theorem curtilageref13_Right.mono : ∀ a0 a1 k, LeO (curtilageref13_Right.f k a0 a1) (curtilageref13_Right.f (k + 1) a0 a1) := by
  intro a0 a1 k
  obtain ⟨ih0, ih1, ih2⟩ := curtilageref13_Right.mono_l k
  unfold curtilageref13_Right.f
  repeat' first
      | (with_reducible exact ih0 _ _ _)
      | (with_reducible exact ih1 _ _ _ _)
      | (with_reducible exact ih2 _ _ _ _)
      | (with_reducible exact LeO.refl _)
      | (with_reducible exact LeO.none _)
      | (with_reducible refine LeO.ite ?_ ?_)
      | (with_reducible refine LeO.bind ?_ (fun _ => ?_))
      | exact ih0 _ _ _
      | exact ih1 _ _ _ _
      | exact ih2 _ _ _ _
      | exact LeO.none _
      | refine LeO.ite ?_ ?_
      | refine LeO.bind ?_ (fun _ => ?_)
def graph_End.f (k : Nat) (l0 : List (S29)) (l1 : List Int) : Option (List Int) := (graph_Begin.f l0 l1).bind fun t337 => ((slices_Reverse_int_int.f k t337).bind fun t340 => (some t340))
theorem graph_End.mono : ∀ a0 a1 k, LeO (graph_End.f k a0 a1) (graph_End.f (k + 1) a0 a1) := by
  intro a0 a1 k
  unfold graph_End.f
  repeat' first
      | (with_reducible exact slices_Reverse_int_int.mono _ _)
      | (with_reducible exact LeO.refl _)
      | (with_reducible exact LeO.none _)
      | (with_reducible refine LeO.ite ?_ ?_)
      | (with_reducible refine LeO.bind ?_ (fun _ => ?_))
      | exact slices_Reverse_int_int.mono _ _
      | exact LeO.none _
      | refine LeO.ite ?_ ?_
      | refine LeO.bind ?_ (fun _ => ?_)
mutual
def curtilagelaw13_GraphBegins.j0 : Nat → List (S29) → List Int → Bool → Bool → Option (Bool)
  | 0, _, _, _, _ => none
  | k + 1, x0, x1, x5, x24 => if x24 = true then (some x5) else ((graph_Begin.f x0 x1).bind fun t344 => ((graph_End.f k x0 x1).bind fun t347 => ((curtilageref13_Begin.f x0 x1).bind fun t350 => (if (t347.length : Int) = (t350.length : Int) then (curtilagelaw13_GraphBegins.l0 k x5 t344 t347 t350 0) else (some false)))))
def curtilagelaw13_GraphBegins.l0 : Nat → Bool → List Int → List Int → List Int → Int → Option (Bool)
  | 0, _, _, _, _, _ => none
  | k + 1, x5, x8, x9, x10, x11 => if x11 < (x9.length : Int) then (if 0 ≤ x11 then (if 0 ≤ (wrap64 ((wrap64 ((x10.length : Int) - 1)) - x11)) then (if (wrap64 ((wrap64 ((x10.length : Int) - 1)) - x11)) < (x10.length : Int) then (if (rd x9 x11) = (rd x10 (wrap64 ((wrap64 ((x10.length : Int) - 1)) - x11))) then (curtilagelaw13_GraphBegins.l0 k x5 x8 x9 x10 (wrap64 (x11 + 1))) else (some false)) else (none)) else (none)) else (none)) else (if x5 = true then ((curtilageref10_Numbers.f k x8 x10).bind fun t355 => (some t355)) else (some false))
end
def curtilagelaw13_GraphBegins.f (k : Nat) (l0 : List (S29)) (l1 : List Int) : Option (Bool) := (curtilagelaw13_awake.f k).bind fun t341 => ((curtilageref13_Short.f k l0 20).bind fun t342 => ((curtilageref13_Right.f k l1 (l0.length : Int)).bind fun t343 => (if t342 = true then (curtilagelaw13_GraphBegins.j0 k l0 l1 t341 (!t343)) else (curtilagelaw13_GraphBegins.j0 k l0 l1 t341 true))))
theorem curtilagelaw13_GraphBegins.mono_l : ∀ k, (∀ y0 y1 y2 y3, LeO (curtilagelaw13_GraphBegins.j0 k y0 y1 y2 y3) (curtilagelaw13_GraphBegins.j0 (k + 1) y0 y1 y2 y3)) ∧ (∀ y0 y1 y2 y3 y4, LeO (curtilagelaw13_GraphBegins.l0 k y0 y1 y2 y3 y4) (curtilagelaw13_GraphBegins.l0 (k + 1) y0 y1 y2 y3 y4))
  | 0 => ⟨fun _ _ _ _ r h => by simp [curtilagelaw13_GraphBegins.j0] at h, fun _ _ _ _ _ r h => by simp [curtilagelaw13_GraphBegins.l0] at h⟩
  | k + 1 => by
    obtain ⟨ih0, ih1⟩ := curtilagelaw13_GraphBegins.mono_l k
    refine ⟨?_, ?_⟩
    · intro y0 y1 y2 y3
      unfold curtilagelaw13_GraphBegins.j0
      repeat' first
      | (with_reducible exact ih0 _ _ _ _)
      | (with_reducible exact ih1 _ _ _ _ _)
      | (with_reducible exact curtilagelaw13_awake.mono _)
      | (with_reducible exact curtilageref10_Numbers.mono _ _ _)
      | (with_reducible exact curtilageref13_Right.mono _ _ _)
      | (with_reducible exact curtilageref13_Short.mono _ _ _)
      | (with_reducible exact graph_End.mono _ _ _)
      | (with_reducible exact LeO.refl _)
      | (with_reducible exact LeO.none _)
      | (with_reducible refine LeO.ite ?_ ?_)
      | (with_reducible refine LeO.bind ?_ (fun _ => ?_))
      | exact ih0 _ _ _ _
      | exact ih1 _ _ _ _ _
      | exact curtilagelaw13_awake.mono _
      | exact curtilageref10_Numbers.mono _ _ _
      | exact curtilageref13_Right.mono _ _ _
      | exact curtilageref13_Short.mono _ _ _
      | exact graph_End.mono _ _ _
      | exact LeO.none _
      | refine LeO.ite ?_ ?_
      | refine LeO.bind ?_ (fun _ => ?_)
    · intro y0 y1 y2 y3 y4
      unfold curtilagelaw13_GraphBegins.l0
      repeat' first
      | (with_reducible exact ih0 _ _ _ _)
      | (with_reducible exact ih1 _ _ _ _ _)
      | (with_reducible exact curtilagelaw13_awake.mono _)
      | (with_reducible exact curtilageref10_Numbers.mono _ _ _)
      | (with_reducible exact curtilageref13_Right.mono _ _ _)
      | (with_reducible exact curtilageref13_Short.mono _ _ _)
      | (with_reducible exact graph_End.mono _ _ _)
      | (with_reducible exact LeO.refl _)
      | (with_reducible exact LeO.none _)
      | (with_reducible refine LeO.ite ?_ ?_)
      | (with_reducible refine LeO.bind ?_ (fun _ => ?_))
      | exact ih0 _ _ _ _
      | exact ih1 _ _ _ _ _
      | exact curtilagelaw13_awake.mono _
      | exact curtilageref10_Numbers.mono _ _ _
      | exact curtilageref13_Right.mono _ _ _
      | exact curtilageref13_Short.mono _ _ _
      | exact graph_End.mono _ _ _
      | exact LeO.none _
      | refine LeO.ite ?_ ?_
      | refine LeO.bind ?_ (fun _ => ?_)
theorem curtilagelaw13_GraphBegins.mono : ∀ a0 a1 k, LeO (curtilagelaw13_GraphBegins.f k a0 a1) (curtilagelaw13_GraphBegins.f (k + 1) a0 a1) := by
  intro a0 a1 k
  obtain ⟨ih0, ih1⟩ := curtilagelaw13_GraphBegins.mono_l k
  unfold curtilagelaw13_GraphBegins.f
  repeat' first
      | (with_reducible exact ih0 _ _ _ _)
      | (with_reducible exact ih1 _ _ _ _ _)
      | (with_reducible exact curtilagelaw13_awake.mono _)
      | (with_reducible exact curtilageref10_Numbers.mono _ _ _)
      | (with_reducible exact curtilageref13_Right.mono _ _ _)
      | (with_reducible exact curtilageref13_Short.mono _ _ _)
      | (with_reducible exact graph_End.mono _ _ _)
      | (with_reducible exact LeO.refl _)
      | (with_reducible exact LeO.none _)
      | (with_reducible refine LeO.ite ?_ ?_)
      | (with_reducible refine LeO.bind ?_ (fun _ => ?_))
      | exact ih0 _ _ _ _
      | exact ih1 _ _ _ _ _
      | exact curtilagelaw13_awake.mono _
      | exact curtilageref10_Numbers.mono _ _ _
      | exact curtilageref13_Right.mono _ _ _
      | exact curtilageref13_Short.mono _ _ _
      | exact graph_End.mono _ _ _
      | exact LeO.none _
      | refine LeO.ite ?_ ?_
      | refine LeO.bind ?_ (fun _ => ?_)
end Go.Proofs.Ytndmfjdoekdleaa.P
