/- What functions of the program, and of its laws, give, each proved of its code by a walk; no condition. -/
import Derived.Test.YtociaidhgefpiaaKDlBackPx0
import Derived.Test.YtociaidhgefpiaaKDlBackPx1
import Derived.Test.YtociaidhgefpiaaKDlBackPx6
import Derived.Test.YtociaidhgefpiaaKDlBackPx9
import Derived.Test.YtociaidhgefpiaaKDlBackPx10
namespace Go.Proofs.Ytociaidhgefpiaa.P
open Go.RowKit Go.Proofs.YtociaidhgefpiaaW.PrintWords Go.Proofs.YtociaidhgefpiaaW.PrintLast Go.Proofs.YtociaidhgefpiaaW.PrintMore
attribute [local go_sem] max2_int min2_int max_two min_two max_three min_three max_four min_four   -- for this text's walks alone
set_option linter.unusedVariables false
set_option linter.unusedSimpArgs false

def dl_Count.l0 : Nat → Int → Int → List Int → Int → Int → Option (Int)
  | 0, _, _, _, _, _ => none
  | k + 1, x1, x5, x9, x10, x11 => if x11 < x10 then (if 0 ≤ x11 then (if x11 < (x9.length : Int) then (if (rd x9 x11) = x1 then (dl_Count.l0 k x1 (wrap64 (x5 + 1)) x9 x10 (wrap64 (x11 + 1))) else (dl_Count.l0 k x1 x5 x9 x10 (wrap64 (x11 + 1)))) else (none)) else (none)) else (some x5)
def dl_Count.f (k : Nat) (l0_0 : List Int) (l0_1 : List Int) (a1 : Int) : Option (Int) := dl_Count.l0 k a1 0 l0_1 (l0_1.length : Int) 0
theorem dl_Count.mono_l : ∀ k, (∀ y0 y1 y2 y3 y4, LeO (dl_Count.l0 k y0 y1 y2 y3 y4) (dl_Count.l0 (k + 1) y0 y1 y2 y3 y4))
  | 0 => fun _ _ _ _ _ r h => by simp [dl_Count.l0] at h
  | k + 1 => by
    have ih0 := dl_Count.mono_l k
    · intro y0 y1 y2 y3 y4
      unfold dl_Count.l0
      repeat' first
      | (with_reducible exact ih0 _ _ _ _ _)
      | (with_reducible exact LeO.refl _)
      | (with_reducible exact LeO.none _)
      | (with_reducible refine LeO.ite ?_ ?_)
      | (with_reducible refine LeO.bind ?_ (fun _ => ?_))
      | exact ih0 _ _ _ _ _
      | exact LeO.none _
      | refine LeO.ite ?_ ?_
      | refine LeO.bind ?_ (fun _ => ?_)
theorem dl_Count.mono : ∀ a0 a1 a2 k, LeO (dl_Count.f k a0 a1 a2) (dl_Count.f (k + 1) a0 a1 a2) := by
  intro a0 a1 a2 k
  have ih0 := dl_Count.mono_l k
  unfold dl_Count.f
  repeat' first
      | (with_reducible exact ih0 _ _ _ _ _)
      | (with_reducible exact LeO.refl _)
      | (with_reducible exact LeO.none _)
      | (with_reducible refine LeO.ite ?_ ?_)
      | (with_reducible refine LeO.bind ?_ (fun _ => ?_))
      | exact ih0 _ _ _ _ _
      | exact LeO.none _
      | refine LeO.ite ?_ ?_
      | refine LeO.bind ?_ (fun _ => ?_)
end Go.Proofs.Ytociaidhgefpiaa.P
