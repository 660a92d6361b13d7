/- What functions of the program, and of its laws, give, each proved of its code by a walk; no condition. -/
import Derived.Test.YtndmfjdoekdleaaKGraphMorePx0
import Derived.Test.YtndmfjdoekdleaaKGraphMorePx1
import Derived.Test.YtndmfjdoekdleaaKGraphMorePx5
namespace Go.Proofs.Ytndmfjdoekdleaa.P
open Go.RowKit Go.Proofs.YtndmfjdoekdleaaW.PrintWords Go.Proofs.YtndmfjdoekdleaaW.PrintLast Go.Proofs.YtndmfjdoekdleaaW.PrintMore
attribute [local go_sem] max2_int min2_int max_two min_two max_three min_three max_four min_four   -- for this text's walks alone
set_option linter.unusedVariables false
set_option linter.unusedSimpArgs false

mutual
def curtilageref13_Closure.l0 : Nat → List (S29) → List Int → Int → Option (List Int × ByteArray × Int)
  | 0, _, _, _ => none
  | k + 1, x0, x8, x9 => if x9 < (x8.length : Int) then (if 0 ≤ x9 then (if 0 ≤ (rd x8 x9) then (if (rd x8 x9) < (x0.length : Int) then (curtilageref13_Closure.l1 k x0 x8 x9 0 ((rd_T29 x0 (rd x8 x9)).f0) ((rd_T29 x0 (rd x8 x9)).f1) ((rd_T29 x0 (rd x8 x9)).f2) ((rd_T29 x0 (rd x8 x9)).f3) ((rd_T29 x0 (rd x8 x9)).f4) ((rd_T29 x0 (rd x8 x9)).f5) ((rd_T29 x0 (rd x8 x9)).f6)) else (none)) else (none)) else (none)) else (some (x8, (⟨#[]⟩ : ByteArray), 0))
def curtilageref13_Closure.l1 : Nat → List (S29) → List Int → Int → Int → ByteArray → List ByteArray → List (S99) → List (S101) → List (S103) → List Int → List Int → Option (List Int × ByteArray × Int)
  | 0, _, _, _, _, _, _, _, _, _, _, _ => none
  | k + 1, x0, x8, x9, x11, x403000, x403001, x403002, x403003, x403004, x403005, x403006 => if x11 < (x403001.length : Int) then (if 0 ≤ x11 then ((curtilageref13_Find.f k x0 (rdOf ByteArray.empty x403001 x11)).bind fun t404 => (if t404 < 0 then (some (([] : List Int), rdOf ByteArray.empty x403001 x11, 130)) else ((curtilageref13_Has.f k x8 t404).bind fun t406 => (if t406 = true then (curtilageref13_Closure.l1 k x0 x8 x9 (wrap64 (x11 + 1)) x403000 x403001 x403002 x403003 x403004 x403005 x403006) else (if x8.length < 17592186044416 then (curtilageref13_Closure.l1 k x0 (x8 ++ [t404]) x9 (wrap64 (x11 + 1)) x403000 x403001 x403002 x403003 x403004 x403005 x403006) else (none)))))) else (none)) else (curtilageref13_Closure.l0 k x0 x8 (wrap64 (x9 + 1)))
end
def curtilageref13_Closure.f (k : Nat) (l0 : List (S29)) (a1 : ByteArray) : Option (List Int × ByteArray × Int) := (curtilageref13_Find.f k l0 a1).bind fun t396 => (if t396 < 0 then (some (([] : List Int), a1, 130)) else (curtilageref13_Closure.l0 k l0 (([t396] : List Int)) 0))
theorem curtilageref13_Closure.mono_l : ∀ k, (∀ y0 y1 y2, LeO (curtilageref13_Closure.l0 k y0 y1 y2) (curtilageref13_Closure.l0 (k + 1) y0 y1 y2)) ∧ (∀ y0 y1 y2 y3 y4 y5 y6 y7 y8 y9 y10, LeO (curtilageref13_Closure.l1 k y0 y1 y2 y3 y4 y5 y6 y7 y8 y9 y10) (curtilageref13_Closure.l1 (k + 1) y0 y1 y2 y3 y4 y5 y6 y7 y8 y9 y10))
  | 0 => ⟨fun _ _ _ r h => by simp [curtilageref13_Closure.l0] at h, fun _ _ _ _ _ _ _ _ _ _ _ r h => by simp [curtilageref13_Closure.l1] at h⟩
  | k + 1 => by
    obtain ⟨ih0, ih1⟩ := curtilageref13_Closure.mono_l k
    refine ⟨?_, ?_⟩
    · intro y0 y1 y2
      unfold curtilageref13_Closure.l0
      repeat' first
      | (with_reducible exact ih0 _ _ _)
      | (with_reducible exact ih1 _ _ _ _ _ _ _ _ _ _ _)
      | (with_reducible exact curtilageref13_Find.mono _ _ _)
      | (with_reducible exact curtilageref13_Has.mono _ _ _)
      | (with_reducible exact LeO.refl _)
      | (with_reducible exact LeO.none _)
      | (with_reducible refine LeO.ite ?_ ?_)
      | (with_reducible refine LeO.bind ?_ (fun _ => ?_))
      | exact ih0 _ _ _
      | exact ih1 _ _ _ _ _ _ _ _ _ _ _
      | exact curtilageref13_Find.mono _ _ _
      | exact curtilageref13_Has.mono _ _ _
      | exact LeO.none _
      | refine LeO.ite ?_ ?_
      | refine LeO.bind ?_ (fun _ => ?_)
    · intro y0 y1 y2 y3 y4 y5 y6 y7 y8 y9 y10
      unfold curtilageref13_Closure.l1
      repeat' first
      | (with_reducible exact ih0 _ _ _)
      | (with_reducible exact ih1 _ _ _ _ _ _ _ _ _ _ _)
      | (with_reducible exact curtilageref13_Find.mono _ _ _)
      | (with_reducible exact curtilageref13_Has.mono _ _ _)
      | (with_reducible exact LeO.refl _)
      | (with_reducible exact LeO.none _)
      | (with_reducible refine LeO.ite ?_ ?_)
      | (with_reducible refine LeO.bind ?_ (fun _ => ?_))
      | exact ih0 _ _ _
      | exact ih1 _ _ _ _ _ _ _ _ _ _ _
      | exact curtilageref13_Find.mono _ _ _
      | exact curtilageref13_Has.mono _ _ _
      | exact LeO.none _
      | refine LeO.ite ?_ ?_
      | refine LeO.bind ?_ (fun _ => ?_)
theorem curtilageref13_Closure.mono : ∀ a0 a1 k, LeO (curtilageref13_Closure.f k a0 a1) (curtilageref13_Closure.f (k + 1) a0 a1) := by
  intro a0 a1 k
  obtain ⟨ih0, ih1⟩ := curtilageref13_Closure.mono_l k
  unfold curtilageref13_Closure.f
  repeat' first
      | (with_reducible exact ih0 _ _ _)
      | (with_reducible exact ih1 _ _ _ _ _ _ _ _ _ _ _)
      | (with_reducible exact curtilageref13_Find.mono _ _ _)
      | (with_reducible exact curtilageref13_Has.mono _ _ _)
      | (with_reducible exact LeO.refl _)
      | (with_reducible exact LeO.none _)
      | (with_reducible refine LeO.ite ?_ ?_)
      | (with_reducible refine LeO.bind ?_ (fun _ => ?_))
      | exact ih0 _ _ _
      | exact ih1 _ _ _ _ _ _ _ _ _ _ _
      | exact curtilageref13_Find.mono _ _ _
      | exact curtilageref13_Has.mono _ _ _
      | exact LeO.none _
      | refine LeO.ite ?_ ?_
      | refine LeO.bind ?_ (fun _ => ?_)
mutual
def graph_Reach.j0 : Nat → List (S29) → Int → Bool → Option (List Int)
  | 0, _, _, _ => none
  | k + 1, x0, x1, x17 => if x17 = true then (some ([] : List Int)) else (graph_Reach.l0 k x0 (([x1] : List Int)) 0)
def graph_Reach.l0 : Nat → List (S29) → List Int → Int → Option (List Int)
  | 0, _, _, _ => none
  | k + 1, x0, x5, x6 => if x6 < (x5.length : Int) then (if 0 ≤ x6 then (if 0 ≤ (rd x5 x6) then (if (rd x5 x6) < (x0.length : Int) then (graph_Reach.l1 k x0 x5 x6 ((rd_T29 x0 (rd x5 x6)).f1) (((rd_T29 x0 (rd x5 x6)).f1).length : Int) 0) else (none)) else (none)) else (none)) else ((slices_Sort_int_int.f k x5).bind fun t413 => (some t413))
def graph_Reach.l1 : Nat → List (S29) → List Int → Int → List ByteArray → Int → Int → Option (List Int)
  | 0, _, _, _, _, _, _ => none
  | k + 1, x0, x5, x6, x33, x34, x35 => if x35 < x34 then (if 0 ≤ x35 then (if x35 < (x33.length : Int) then ((graph_Find.f x0 (rdOf ByteArray.empty x33 x35)).bind fun t417 => (if t417 ≥ 0 then ((slices_Contains_int_int.f k x5 t417).bind fun t418 => (if t418 = true then (graph_Reach.l1 k x0 x5 x6 x33 x34 (wrap64 (x35 + 1))) else (if x5.length < 17592186044416 then (graph_Reach.l1 k x0 (x5 ++ [t417]) x6 x33 x34 (wrap64 (x35 + 1))) else (none)))) else (graph_Reach.l1 k x0 x5 x6 x33 x34 (wrap64 (x35 + 1))))) else (none)) else (none)) else (graph_Reach.l0 k x0 x5 (wrap64 (x6 + 1)))
end
def graph_Reach.f (k : Nat) (l0 : List (S29)) (a1 : Int) : Option (List Int) := if a1 < 0 then (graph_Reach.j0 k l0 a1 true) else (graph_Reach.j0 k l0 a1 (decide (a1 ≥ (l0.length : Int))))
theorem graph_Reach.mono_l : ∀ k, (∀ y0 y1 y2, LeO (graph_Reach.j0 k y0 y1 y2) (graph_Reach.j0 (k + 1) y0 y1 y2)) ∧ (∀ y0 y1 y2, LeO (graph_Reach.l0 k y0 y1 y2) (graph_Reach.l0 (k + 1) y0 y1 y2)) ∧ (∀ y0 y1 y2 y3 y4 y5, LeO (graph_Reach.l1 k y0 y1 y2 y3 y4 y5) (graph_Reach.l1 (k + 1) y0 y1 y2 y3 y4 y5))
  | 0 => ⟨fun _ _ _ r h => by simp [graph_Reach.j0] at h, fun _ _ _ r h => by simp [graph_Reach.l0] at h, fun _ _ _ _ _ _ r h => by simp [graph_Reach.l1] at h⟩
  | k + 1 => by
    obtain ⟨ih0, ih1, ih2⟩ := graph_Reach.mono_l k
    refine ⟨?_, ?_, ?_⟩
    · intro y0 y1 y2
      unfold graph_Reach.j0
      repeat' first
      | (with_reducible exact ih0 _ _ _)
      | (with_reducible exact ih1 _ _ _)
      | (with_reducible exact ih2 _ _ _ _ _ _)
      | (with_reducible exact slices_Contains_int_int.mono _ _ _)
      | (with_reducible exact slices_Sort_int_int.mono _ _)
      | (with_reducible exact LeO.refl _)
      | (with_reducible exact LeO.none _)
      | (with_reducible refine LeO.ite ?_ ?_)
      | (with_reducible refine LeO.bind ?_ (fun _ => ?_))
      | exact ih0 _ _ _
      | exact ih1 _ _ _
      | exact ih2 _ _ _ _ _ _
      | exact slices_Contains_int_int.mono _ _ _
      | exact slices_Sort_int_int.mono _ _
      | exact LeO.none _
      | refine LeO.ite ?_ ?_
      | refine LeO.bind ?_ (fun _ => ?_)
    · intro y0 y1 y2
      unfold graph_Reach.l0
      repeat' first
      | (with_reducible exact ih0 _ _ _)
      | (with_reducible exact ih1 _ _ _)
      | (with_reducible exact ih2 _ _ _ _ _ _)
      | (with_reducible exact slices_Contains_int_int.mono _ _ _)
      | (with_reducible exact slices_Sort_int_int.mono _ _)
      | (with_reducible exact LeO.refl _)
      | (with_reducible exact LeO.none _)
      | (with_reducible refine LeO.ite ?_ ?_)
      | (with_reducible refine LeO.bind ?_ (fun _ => ?_))
      | exact ih0 _ _ _
      | exact ih1 _ _ _
      | exact ih2 _ _ _ _ _ _
      | exact slices_Contains_int_int.mono _ _ _
      | exact slices_Sort_int_int.mono _ _
      | exact LeO.none _
      | refine LeO.ite ?_ ?_
      | refine LeO.bind ?_ (fun _ => ?_)
    · intro y0 y1 y2 y3 y4 y5
      unfold graph_Reach.l1
      repeat' first
      | (with_reducible exact ih0 _ _ _)
      | (with_reducible exact ih1 _ _ _)
      | (with_reducible exact ih2 _ _ _ _ _ _)
      | (with_reducible exact slices_Contains_int_int.mono _ _ _)
      | (with_reducible exact slices_Sort_int_int.mono _ _)
      | (with_reducible exact LeO.refl _)
      | (with_reducible exact LeO.none _)
      | (with_reducible refine LeO.ite ?_ ?_)
      | (with_reducible refine LeO.bind ?_ (fun _ => ?_))
      | exact ih0 _ _ _
      | exact ih1 _ _ _
      | exact ih2 _ _ _ _ _ _
      | exact slices_Contains_int_int.mono _ _ _
      | exact slices_Sort_int_int.mono _ _
      | exact LeO.none _
      | refine LeO.ite ?_ ?_
      | refine LeO.bind ?_ (fun _ => ?_)
theorem graph_Reach.mono : ∀ a0 a1 k, LeO (graph_Reach.f k a0 a1) (graph_Reach.f (k + 1) a0 a1) := by
  intro a0 a1 k
  obtain ⟨ih0, ih1, ih2⟩ := graph_Reach.mono_l k
  unfold graph_Reach.f
  repeat' first
      | (with_reducible exact ih0 _ _ _)
      | (with_reducible exact ih1 _ _ _)
      | (with_reducible exact ih2 _ _ _ _ _ _)
      | (with_reducible exact slices_Contains_int_int.mono _ _ _)
      | (with_reducible exact slices_Sort_int_int.mono _ _)
      | (with_reducible exact LeO.refl _)
      | (with_reducible exact LeO.none _)
      | (with_reducible refine LeO.ite ?_ ?_)
      | (with_reducible refine LeO.bind ?_ (fun _ => ?_))
      | exact ih0 _ _ _
      | exact ih1 _ _ _
      | exact ih2 _ _ _ _ _ _
      | exact slices_Contains_int_int.mono _ _ _
      | exact slices_Sort_int_int.mono _ _
      | exact LeO.none _
      | refine LeO.ite ?_ ?_
      | refine LeO.bind ?_ (fun _ => ?_)
end Go.Proofs.Ytndmfjdoekdleaa.P
