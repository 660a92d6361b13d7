/- What functions of the program, and of its laws, give, each proved of its code by a walk; no condition. -/
import Derived.Test.YtndmfjdoekdleaaKGraphMorePx0
import Derived.Test.YtndmfjdoekdleaaKGraphMorePx9
namespace Go.Proofs.Ytndmfjdoekdleaa.P
open Go.RowKit Go.Proofs.YtndmfjdoekdleaaW.PrintWords Go.Proofs.YtndmfjdoekdleaaW.PrintLast Go.Proofs.YtndmfjdoekdleaaW.PrintMore
attribute [local go_sem] max2_int min2_int max_two min_two max_three min_three max_four min_four   -- for this text's walks alone
set_option linter.unusedVariables false
set_option linter.unusedSimpArgs false

mutual
def curtilageref13_Reach.j0 : Nat → List (S29) → Int → Bool → Option (List Int)
  | 0, _, _, _ => none
  | k + 1, x0, x1, x18 => if x18 = true then (some ([] : List Int)) else (if 0 ≤ (x0.length : Int) then (if ((x0.length : Int) : Int).toNat ≤ 281474976710656 then ((some (List.replicate ((x0.length : Int) : Int).toNat false : List Bool)).bind fun y360 => (if 0 ≤ x1 then (if x1 < (y360.length : Int) then (curtilageref13_Reach.l0 k x0 (y360.set (x1 : Int).toNat true) 0) else (none)) else (none))) else (none)) else (none))
def curtilageref13_Reach.l0 : Nat → List (S29) → List Bool → Int → Option (List Int)
  | 0, _, _, _ => none
  | k + 1, x0, x5, x6 => if x6 < (x0.length : Int) then (curtilageref13_Reach.l1 k x0 x5 x6 0) else (curtilageref13_Reach.l3 k x0 x5 ([] : List Int) 0)
def curtilageref13_Reach.l1 : Nat → List (S29) → List Bool → Int → Int → Option (List Int)
  | 0, _, _, _, _ => none
  | k + 1, x0, x5, x6, x7 => if x7 < (x0.length : Int) then (curtilageref13_Reach.l2 k x0 x5 x6 x7 0) else (curtilageref13_Reach.l0 k x0 x5 (wrap64 (x6 + 1)))
def curtilageref13_Reach.l2 : Nat → List (S29) → List Bool → Int → Int → Int → Option (List Int)
  | 0, _, _, _, _, _ => none
  | k + 1, x0, x5, x6, x7, x8 => if x8 < (x0.length : Int) then (if 0 ≤ x7 then (if x7 < (x5.length : Int) then (if rdOf false x5 x7 = true then ((curtilageref13_Needs.f k x0 x7 x8).bind fun t365 => (if t365 = true then (if 0 ≤ x8 then (if x8 < (x5.length : Int) then (curtilageref13_Reach.l2 k x0 (x5.set (x8 : Int).toNat true) x6 x7 (wrap64 (x8 + 1))) else (none)) else (none)) else (curtilageref13_Reach.l2 k x0 x5 x6 x7 (wrap64 (x8 + 1))))) else (curtilageref13_Reach.l2 k x0 x5 x6 x7 (wrap64 (x8 + 1)))) else (none)) else (none)) else (curtilageref13_Reach.l1 k x0 x5 x6 (wrap64 (x7 + 1)))
def curtilageref13_Reach.l3 : Nat → List (S29) → List Bool → List Int → Int → Option (List Int)
  | 0, _, _, _, _ => none
  | k + 1, x0, x5, x9, x10 => if x10 < (x0.length : Int) then (if 0 ≤ x10 then (if x10 < (x5.length : Int) then (if rdOf false x5 x10 = true then (if x9.length < 17592186044416 then (curtilageref13_Reach.l3 k x0 x5 (x9 ++ [x10]) (wrap64 (x10 + 1))) else (none)) else (curtilageref13_Reach.l3 k x0 x5 x9 (wrap64 (x10 + 1)))) else (none)) else (none)) else (some x9)
end
def curtilageref13_Reach.f (k : Nat) (l0 : List (S29)) (a1 : Int) : Option (List Int) := if a1 < 0 then (curtilageref13_Reach.j0 k l0 a1 true) else (curtilageref13_Reach.j0 k l0 a1 (decide (a1 ≥ (l0.length : Int))))
theorem curtilageref13_Reach.mono_l : ∀ k, (∀ y0 y1 y2, LeO (curtilageref13_Reach.j0 k y0 y1 y2) (curtilageref13_Reach.j0 (k + 1) y0 y1 y2)) ∧ (∀ y0 y1 y2, LeO (curtilageref13_Reach.l0 k y0 y1 y2) (curtilageref13_Reach.l0 (k + 1) y0 y1 y2)) ∧ (∀ y0 y1 y2 y3, LeO (curtilageref13_Reach.l1 k y0 y1 y2 y3) (curtilageref13_Reach.l1 (k + 1) y0 y1 y2 y3)) ∧ (∀ y0 y1 y2 y3 y4, LeO (curtilageref13_Reach.l2 k y0 y1 y2 y3 y4) (curtilageref13_Reach.l2 (k + 1) y0 y1 y2 y3 y4)) ∧ (∀ y0 y1 y2 y3, LeO (curtilageref13_Reach.l3 k y0 y1 y2 y3) (curtilageref13_Reach.l3 (k + 1) y0 y1 y2 y3))
  | 0 => ⟨fun _ _ _ r h => by simp [curtilageref13_Reach.j0] at h, fun _ _ _ r h => by simp [curtilageref13_Reach.l0] at h, fun _ _ _ _ r h => by simp [curtilageref13_Reach.l1] at h, fun _ _ _ _ _ r h => by simp [curtilageref13_Reach.l2] at h, fun _ _ _ _ r h => by simp [curtilageref13_Reach.l3] at h⟩
  | k + 1 => by
    obtain ⟨ih0, ih1, ih2, ih3, ih4⟩ := curtilageref13_Reach.mono_l k
    refine ⟨?_, ?_, ?_, ?_, ?_⟩
    · intro y0 y1 y2
      unfold curtilageref13_Reach.j0
      repeat' first
      | (with_reducible exact ih0 _ _ _)
      | (with_reducible exact ih1 _ _ _)
      | (with_reducible exact ih2 _ _ _ _)
      | (with_reducible exact ih3 _ _ _ _ _)
      | (with_reducible exact ih4 _ _ _ _)
      | (with_reducible exact curtilageref13_Needs.mono _ _ _ _)
      | (with_reducible exact LeO.refl _)
      | (with_reducible exact LeO.none _)
      | (with_reducible refine LeO.ite ?_ ?_)
      | (with_reducible refine LeO.bind ?_ (fun _ => ?_))
      | exact ih0 _ _ _
      | exact ih1 _ _ _
      | exact ih2 _ _ _ _
      | exact ih3 _ _ _ _ _
      | exact ih4 _ _ _ _
      | exact curtilageref13_Needs.mono _ _ _ _
      | exact LeO.none _
      | refine LeO.ite ?_ ?_
      | refine LeO.bind ?_ (fun _ => ?_)
    · intro y0 y1 y2
      unfold curtilageref13_Reach.l0
      repeat' first
      | (with_reducible exact ih0 _ _ _)
      | (with_reducible exact ih1 _ _ _)
      | (with_reducible exact ih2 _ _ _ _)
      | (with_reducible exact ih3 _ _ _ _ _)
      | (with_reducible exact ih4 _ _ _ _)
      | (with_reducible exact curtilageref13_Needs.mono _ _ _ _)
      | (with_reducible exact LeO.refl _)
      | (with_reducible exact LeO.none _)
      | (with_reducible refine LeO.ite ?_ ?_)
      | (with_reducible refine LeO.bind ?_ (fun _ => ?_))
      | exact ih0 _ _ _
      | exact ih1 _ _ _
      | exact ih2 _ _ _ _
      | exact ih3 _ _ _ _ _
      | exact ih4 _ _ _ _
      | exact curtilageref13_Needs.mono _ _ _ _
      | exact LeO.none _
      | refine LeO.ite ?_ ?_
      | refine LeO.bind ?_ (fun _ => ?_)
    · intro y0 y1 y2 y3
      unfold curtilageref13_Reach.l1
      repeat' first
      | (with_reducible exact ih0 _ _ _)
      | (with_reducible exact ih1 _ _ _)
      | (with_reducible exact ih2 _ _ _ _)
      | (with_reducible exact ih3 _ _ _ _ _)
      | (with_reducible exact ih4 _ _ _ _)
      | (with_reducible exact curtilageref13_Needs.mono _ _ _ _)
      | (with_reducible exact LeO.refl _)
      | (with_reducible exact LeO.none _)
      | (with_reducible refine LeO.ite ?_ ?_)
      | (with_reducible refine LeO.bind ?_ (fun _ => ?_))
      | exact ih0 _ _ _
      | exact ih1 _ _ _
      | exact ih2 _ _ _ _
      | exact ih3 _ _ _ _ _
      | exact ih4 _ _ _ _
      | exact curtilageref13_Needs.mono _ _ _ _
      | exact LeO.none _
      | refine LeO.ite ?_ ?_
      | refine LeO.bind ?_ (fun _ => ?_)
    · intro y0 y1 y2 y3 y4
      unfold curtilageref13_Reach.l2
      repeat' first
      | (with_reducible exact ih0 _ _ _)
      | (with_reducible exact ih1 _ _ _)
      | (with_reducible exact ih2 _ _ _ _)
      | (with_reducible exact ih3 _ _ _ _ _)
      | (with_reducible exact ih4 _ _ _ _)
      | (with_reducible exact curtilageref13_Needs.mono _ _ _ _)
      | (with_reducible exact LeO.refl _)
      | (with_reducible exact LeO.none _)
      | (with_reducible refine LeO.ite ?_ ?_)
      | (with_reducible refine LeO.bind ?_ (fun _ => ?_))
      | exact ih0 _ _ _
      | exact ih1 _ _ _
      | exact ih2 _ _ _ _
      | exact ih3 _ _ _ _ _
      | exact ih4 _ _ _ _
      | exact curtilageref13_Needs.mono _ _ _ _
      | exact LeO.none _
      | refine LeO.ite ?_ ?_
      | refine LeO.bind ?_ (fun _ => ?_)
    · intro y0 y1 y2 y3
      unfold curtilageref13_Reach.l3
      repeat' first
      | (with_reducible exact ih0 _ _ _)
      | (with_reducible exact ih1 _ _ _)
      | (with_reducible exact ih2 _ _ _ _)
      | (with_reducible exact ih3 _ _ _ _ _)
      | (with_reducible exact ih4 _ _ _ _)
      | (with_reducible exact curtilageref13_Needs.mono _ _ _ _)
      | (with_reducible exact LeO.refl _)
      | (with_reducible exact LeO.none _)
      | (with_reducible refine LeO.ite ?_ ?_)
      | (with_reducible refine LeO.bind ?_ (fun _ => ?_))
      | exact ih0 _ _ _
      | exact ih1 _ _ _
      | exact ih2 _ _ _ _
      | exact ih3 _ _ _ _ _
      | exact ih4 _ _ _ _
      | exact curtilageref13_Needs.mono _ _ _ _
      | exact LeO.none _
      | refine LeO.ite ?_ ?_
      | refine LeO.bind ?_ (fun _ => ?_)
theorem curtilageref13_Reach.mono : ∀ a0 a1 k, LeO (curtilageref13_Reach.f k a0 a1) (curtilageref13_Reach.f (k + 1) a0 a1) := by
  intro a0 a1 k
  obtain ⟨ih0, ih1, ih2, ih3, ih4⟩ := curtilageref13_Reach.mono_l k
  unfold curtilageref13_Reach.f
  repeat' first
      | (with_reducible exact ih0 _ _ _)
      | (with_reducible exact ih1 _ _ _)
      | (with_reducible exact ih2 _ _ _ _)
      | (with_reducible exact ih3 _ _ _ _ _)
      | (with_reducible exact ih4 _ _ _ _)
      | (with_reducible exact curtilageref13_Needs.mono _ _ _ _)
      | (with_reducible exact LeO.refl _)
      | (with_reducible exact LeO.none _)
      | (with_reducible refine LeO.ite ?_ ?_)
      | (with_reducible refine LeO.bind ?_ (fun _ => ?_))
      | exact ih0 _ _ _
      | exact ih1 _ _ _
      | exact ih2 _ _ _ _
      | exact ih3 _ _ _ _ _
      | exact ih4 _ _ _ _
      | exact curtilageref13_Needs.mono _ _ _ _
      | exact LeO.none _
      | refine LeO.ite ?_ ?_
      | refine LeO.bind ?_ (fun _ => ?_)
end Go.Proofs.Ytndmfjdoekdleaa.P
