/- What functions of the program, and of its laws, give, each proved of its code by a walk; no condition. -/
import Derived.Test.YtociaidhgefpiaaKDlPlaysPx0
import Derived.Test.YtociaidhgefpiaaKDlPlaysPx6
import Derived.Test.YtociaidhgefpiaaKDlPlaysPx9
import Derived.Test.YtociaidhgefpiaaKDlPlaysSq
import Derived.Test.YtociaidhgefpiaaKDlPlaysUsh
namespace Go.Proofs.Ytociaidhgefpiaa.P
open Go.RowKit Go.Proofs.YtociaidhgefpiaaW.PrintWords Go.Proofs.YtociaidhgefpiaaW.PrintLast Go.Proofs.YtociaidhgefpiaaW.PrintMore
attribute [local go_sem] max2_int min2_int max_two min_two max_three min_three max_four min_four   -- for this text's walks alone
set_option linter.unusedVariables false
set_option linter.unusedSimpArgs false

def curtilagelaw21_made.l0 : Nat → List (S38) → List (S58) → Int → List Int → List Int → Option (List Int × List Int × Bool)
  | 0, _, _, _, _, _ => none
  | k + 1, x0, x2, x10, x383000, x383001 => if x10 < (x2.length : Int) then (if 0 ≤ x10 then (if (rd_T58 x2 x10).f0 = true then ((dl_Open.f k x0 x383000 x383001 ((rd_T58 x2 x10).f1)).bind fun bt385 => (curtilagelaw21_made.l0 k x0 x2 (wrap64 (x10 + 1)) bt385.1 bt385.2.1)) else ((dl_Close.f k x0 x383000 x383001 ((rd_T58 x2 x10).f1)).bind fun bt396 => (curtilagelaw21_made.l0 k x0 x2 (wrap64 (x10 + 1)) bt396.1 bt396.2.1))) else (none)) else (some (x383000, x383001, true))
def curtilagelaw21_made.f (k : Nat) (l0 : List (S38)) (a1 : ByteArray) (l2 : List (S58)) : Option (List Int × List Int × Bool) := (dl_Begun.f k l0 a1).bind fun bt375 => (if bt375.2.2 = 0 then (curtilagelaw21_made.l0 k l0 l2 0 bt375.1 bt375.2.1) else (some (bt375.1, bt375.2.1, false)))
theorem curtilagelaw21_made.mono_l : ∀ k, (∀ y0 y1 y2 y3 y4, LeO (curtilagelaw21_made.l0 k y0 y1 y2 y3 y4) (curtilagelaw21_made.l0 (k + 1) y0 y1 y2 y3 y4))
  | 0 => fun _ _ _ _ _ r h => by simp [curtilagelaw21_made.l0] at h
  | k + 1 => by
    have ih0 := curtilagelaw21_made.mono_l k
    · intro y0 y1 y2 y3 y4
      unfold curtilagelaw21_made.l0
      repeat' first
      | (with_reducible exact ih0 _ _ _ _ _)
      | (with_reducible exact dl_Begun.mono _ _ _)
      | (with_reducible exact dl_Close.mono _ _ _ _ _)
      | (with_reducible exact dl_Open.mono _ _ _ _ _)
      | (with_reducible exact LeO.refl _)
      | (with_reducible exact LeO.none _)
      | (with_reducible refine LeO.ite ?_ ?_)
      | (with_reducible refine LeO.bind ?_ (fun _ => ?_))
      | exact ih0 _ _ _ _ _
      | exact dl_Begun.mono _ _ _
      | exact dl_Close.mono _ _ _ _ _
      | exact dl_Open.mono _ _ _ _ _
      | exact LeO.none _
      | refine LeO.ite ?_ ?_
      | refine LeO.bind ?_ (fun _ => ?_)
theorem curtilagelaw21_made.mono : ∀ a0 a1 a2 k, LeO (curtilagelaw21_made.f k a0 a1 a2) (curtilagelaw21_made.f (k + 1) a0 a1 a2) := by
  intro a0 a1 a2 k
  have ih0 := curtilagelaw21_made.mono_l k
  unfold curtilagelaw21_made.f
  repeat' first
      | (with_reducible exact ih0 _ _ _ _ _)
      | (with_reducible exact dl_Begun.mono _ _ _)
      | (with_reducible exact dl_Close.mono _ _ _ _ _)
      | (with_reducible exact dl_Open.mono _ _ _ _ _)
      | (with_reducible exact LeO.refl _)
      | (with_reducible exact LeO.none _)
      | (with_reducible refine LeO.ite ?_ ?_)
      | (with_reducible refine LeO.bind ?_ (fun _ => ?_))
      | exact ih0 _ _ _ _ _
      | exact dl_Begun.mono _ _ _
      | exact dl_Close.mono _ _ _ _ _
      | exact dl_Open.mono _ _ _ _ _
      | exact LeO.none _
      | refine LeO.ite ?_ ?_
      | refine LeO.bind ?_ (fun _ => ?_)
end Go.Proofs.Ytociaidhgefpiaa.P
