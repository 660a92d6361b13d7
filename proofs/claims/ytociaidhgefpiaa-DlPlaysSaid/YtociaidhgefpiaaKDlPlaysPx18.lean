/- What functions of the program, and of its laws, give, each proved of its code by a walk; no condition. -/
import Derived.Test.YtociaidhgefpiaaKDlPlaysPx0
import Derived.Test.YtociaidhgefpiaaKDlPlaysPx1
import Derived.Test.YtociaidhgefpiaaKDlPlaysPx6
import Derived.Test.YtociaidhgefpiaaKDlPlaysPx10
import Derived.Test.YtociaidhgefpiaaKDlPlaysPx11
import Derived.Test.YtociaidhgefpiaaKDlPlaysPx17
import Derived.Test.YtociaidhgefpiaaKDlPlaysSq
import Derived.Test.YtociaidhgefpiaaKDlPlaysUsh
namespace Go.Proofs.Ytociaidhgefpiaa.P
open Go.RowKit Go.Proofs.YtociaidhgefpiaaW.PrintWords Go.Proofs.YtociaidhgefpiaaW.PrintLast Go.Proofs.YtociaidhgefpiaaW.PrintMore
attribute [local go_sem] max2_int min2_int max_two min_two max_three min_three max_four min_four   -- for this text's walks alone
set_option linter.unusedVariables false
set_option linter.unusedSimpArgs false

mutual
def curtilagelaw21_DlEither.j0 : Nat → List (S38) → ByteArray → List (S58) → ByteArray → ByteArray → Bool → Bool → Option (Bool)
  | 0, _, _, _, _, _, _, _ => none
  | k + 1, x0, x1, x2, x3, x4, x11, x41 => if x41 = true then (some x11) else ((curtilagelaw21_made.f k x0 x1 x2).bind fun bt559 => (if bt559.2.2 = true then ((dl_Open.f k x0 bt559.1 bt559.2.1 x3).bind fun bt567 => ((dl_Open.f k x0 bt567.1 bt567.2.1 x4).bind fun bt578 => ((dl_Open.f k x0 bt559.1 bt559.2.1 x4).bind fun bt589 => ((dl_Open.f k x0 bt589.1 bt589.2.1 x3).bind fun bt600 => (if bt567.2.2.2 = bt600.2.2.2 then (if bt578.2.2.2 = bt589.2.2.2 then (if (bt578.1.length : Int) = (bt600.1.length : Int) then (curtilagelaw21_DlEither.j1 k x0 x11 ((bt578.2.1.length : Int) != (bt600.2.1.length : Int)) bt578.1 bt578.2.1 bt600.1 bt600.2.1) else (curtilagelaw21_DlEither.j1 k x0 x11 true bt578.1 bt578.2.1 bt600.1 bt600.2.1)) else (curtilagelaw21_DlEither.j1 k x0 x11 true bt578.1 bt578.2.1 bt600.1 bt600.2.1)) else (curtilagelaw21_DlEither.j1 k x0 x11 true bt578.1 bt578.2.1 bt600.1 bt600.2.1)))))) else (some x11)))
def curtilagelaw21_DlEither.j1 : Nat → List (S38) → Bool → Bool → List Int → List Int → List Int → List Int → Option (Bool)
  | 0, _, _, _, _, _, _, _ => none
  | k + 1, x0, x11, x110, x589000, x589001, x611000, x611001 => if x110 = true then (some false) else (curtilagelaw21_DlEither.l0 k x0 x11 0 x589000 x589001 x611000 x611001)
def curtilagelaw21_DlEither.l0 : Nat → List (S38) → Bool → Int → List Int → List Int → List Int → List Int → Option (Bool)
  | 0, _, _, _, _, _, _, _ => none
  | k + 1, x0, x11, x27, x589000, x589001, x611000, x611001 => if x27 < (x0.length : Int) then ((curtilageref13_Has.f k x589000 x27).bind fun t611 => ((curtilageref13_Has.f k x611000 x27).bind fun t612 => ((dl_Count.f k x589000 x589001 x27).bind fun t613 => ((dl_Count.f k x611000 x611001 x27).bind fun t614 => (if (t611 != t612) = true then (some false) else (if t613 = t614 then (curtilagelaw21_DlEither.l0 k x0 x11 (wrap64 (x27 + 1)) x589000 x589001 x611000 x611001) else (some false))))))) else (some x11)
end
def curtilagelaw21_DlEither.f (k : Nat) (l0 : List (S38)) (a1 : ByteArray) (l2 : List (S58)) (a3 : ByteArray) (a4 : ByteArray) : Option (Bool) := (curtilagelaw21_awake.f k).bind fun t557 => ((curtilageref13_Short.f k l0 12).bind fun t558 => (if t558 = true then (curtilagelaw21_DlEither.j0 k l0 a1 l2 a3 a4 t557 (decide ((l2.length : Int) > 20))) else (curtilagelaw21_DlEither.j0 k l0 a1 l2 a3 a4 t557 true)))
theorem curtilagelaw21_DlEither.mono_l : ∀ k, (∀ y0 y1 y2 y3 y4 y5 y6, LeO (curtilagelaw21_DlEither.j0 k y0 y1 y2 y3 y4 y5 y6) (curtilagelaw21_DlEither.j0 (k + 1) y0 y1 y2 y3 y4 y5 y6)) ∧ (∀ y0 y1 y2 y3 y4 y5 y6, LeO (curtilagelaw21_DlEither.j1 k y0 y1 y2 y3 y4 y5 y6) (curtilagelaw21_DlEither.j1 (k + 1) y0 y1 y2 y3 y4 y5 y6)) ∧ (∀ y0 y1 y2 y3 y4 y5 y6, LeO (curtilagelaw21_DlEither.l0 k y0 y1 y2 y3 y4 y5 y6) (curtilagelaw21_DlEither.l0 (k + 1) y0 y1 y2 y3 y4 y5 y6))
  | 0 => ⟨fun _ _ _ _ _ _ _ r h => by simp [curtilagelaw21_DlEither.j0] at h, fun _ _ _ _ _ _ _ r h => by simp [curtilagelaw21_DlEither.j1] at h, fun _ _ _ _ _ _ _ r h => by simp [curtilagelaw21_DlEither.l0] at h⟩
  | k + 1 => by
    obtain ⟨ih0, ih1, ih2⟩ := curtilagelaw21_DlEither.mono_l k
    refine ⟨?_, ?_, ?_⟩
    · intro y0 y1 y2 y3 y4 y5 y6
      unfold curtilagelaw21_DlEither.j0
      repeat' first
      | (with_reducible exact ih0 _ _ _ _ _ _ _)
      | (with_reducible exact ih1 _ _ _ _ _ _ _)
      | (with_reducible exact ih2 _ _ _ _ _ _ _)
      | (with_reducible exact curtilagelaw21_awake.mono _)
      | (with_reducible exact curtilagelaw21_made.mono _ _ _ _)
      | (with_reducible exact curtilageref13_Has.mono _ _ _)
      | (with_reducible exact curtilageref13_Short.mono _ _ _)
      | (with_reducible exact dl_Count.mono _ _ _ _)
      | (with_reducible exact dl_Open.mono _ _ _ _ _)
      | (with_reducible exact LeO.refl _)
      | (with_reducible exact LeO.none _)
      | (with_reducible refine LeO.ite ?_ ?_)
      | (with_reducible refine LeO.bind ?_ (fun _ => ?_))
      | exact ih0 _ _ _ _ _ _ _
      | exact ih1 _ _ _ _ _ _ _
      | exact ih2 _ _ _ _ _ _ _
      | exact curtilagelaw21_awake.mono _
      | exact curtilagelaw21_made.mono _ _ _ _
      | exact curtilageref13_Has.mono _ _ _
      | exact curtilageref13_Short.mono _ _ _
      | exact dl_Count.mono _ _ _ _
      | exact dl_Open.mono _ _ _ _ _
      | exact LeO.none _
      | refine LeO.ite ?_ ?_
      | refine LeO.bind ?_ (fun _ => ?_)
    · intro y0 y1 y2 y3 y4 y5 y6
      unfold curtilagelaw21_DlEither.j1
      repeat' first
      | (with_reducible exact ih0 _ _ _ _ _ _ _)
      | (with_reducible exact ih1 _ _ _ _ _ _ _)
      | (with_reducible exact ih2 _ _ _ _ _ _ _)
      | (with_reducible exact curtilagelaw21_awake.mono _)
      | (with_reducible exact curtilagelaw21_made.mono _ _ _ _)
      | (with_reducible exact curtilageref13_Has.mono _ _ _)
      | (with_reducible exact curtilageref13_Short.mono _ _ _)
      | (with_reducible exact dl_Count.mono _ _ _ _)
      | (with_reducible exact dl_Open.mono _ _ _ _ _)
      | (with_reducible exact LeO.refl _)
      | (with_reducible exact LeO.none _)
      | (with_reducible refine LeO.ite ?_ ?_)
      | (with_reducible refine LeO.bind ?_ (fun _ => ?_))
      | exact ih0 _ _ _ _ _ _ _
      | exact ih1 _ _ _ _ _ _ _
      | exact ih2 _ _ _ _ _ _ _
      | exact curtilagelaw21_awake.mono _
      | exact curtilagelaw21_made.mono _ _ _ _
      | exact curtilageref13_Has.mono _ _ _
      | exact curtilageref13_Short.mono _ _ _
      | exact dl_Count.mono _ _ _ _
      | exact dl_Open.mono _ _ _ _ _
      | exact LeO.none _
      | refine LeO.ite ?_ ?_
      | refine LeO.bind ?_ (fun _ => ?_)
    · intro y0 y1 y2 y3 y4 y5 y6
      unfold curtilagelaw21_DlEither.l0
      repeat' first
      | (with_reducible exact ih0 _ _ _ _ _ _ _)
      | (with_reducible exact ih1 _ _ _ _ _ _ _)
      | (with_reducible exact ih2 _ _ _ _ _ _ _)
      | (with_reducible exact curtilagelaw21_awake.mono _)
      | (with_reducible exact curtilagelaw21_made.mono _ _ _ _)
      | (with_reducible exact curtilageref13_Has.mono _ _ _)
      | (with_reducible exact curtilageref13_Short.mono _ _ _)
      | (with_reducible exact dl_Count.mono _ _ _ _)
      | (with_reducible exact dl_Open.mono _ _ _ _ _)
      | (with_reducible exact LeO.refl _)
      | (with_reducible exact LeO.none _)
      | (with_reducible refine LeO.ite ?_ ?_)
      | (with_reducible refine LeO.bind ?_ (fun _ => ?_))
      | exact ih0 _ _ _ _ _ _ _
      | exact ih1 _ _ _ _ _ _ _
      | exact ih2 _ _ _ _ _ _ _
      | exact curtilagelaw21_awake.mono _
      | exact curtilagelaw21_made.mono _ _ _ _
      | exact curtilageref13_Has.mono _ _ _
      | exact curtilageref13_Short.mono _ _ _
      | exact dl_Count.mono _ _ _ _
      | exact dl_Open.mono _ _ _ _ _
      | exact LeO.none _
      | refine LeO.ite ?_ ?_
      | refine LeO.bind ?_ (fun _ => ?_)
theorem curtilagelaw21_DlEither.mono : ∀ a0 a1 a2 a3 a4 k, LeO (curtilagelaw21_DlEither.f k a0 a1 a2 a3 a4) (curtilagelaw21_DlEither.f (k + 1) a0 a1 a2 a3 a4) := by
  intro a0 a1 a2 a3 a4 k
  obtain ⟨ih0, ih1, ih2⟩ := curtilagelaw21_DlEither.mono_l k
  unfold curtilagelaw21_DlEither.f
  repeat' first
      | (with_reducible exact ih0 _ _ _ _ _ _ _)
      | (with_reducible exact ih1 _ _ _ _ _ _ _)
      | (with_reducible exact ih2 _ _ _ _ _ _ _)
      | (with_reducible exact curtilagelaw21_awake.mono _)
      | (with_reducible exact curtilagelaw21_made.mono _ _ _ _)
      | (with_reducible exact curtilageref13_Has.mono _ _ _)
      | (with_reducible exact curtilageref13_Short.mono _ _ _)
      | (with_reducible exact dl_Count.mono _ _ _ _)
      | (with_reducible exact dl_Open.mono _ _ _ _ _)
      | (with_reducible exact LeO.refl _)
      | (with_reducible exact LeO.none _)
      | (with_reducible refine LeO.ite ?_ ?_)
      | (with_reducible refine LeO.bind ?_ (fun _ => ?_))
      | exact ih0 _ _ _ _ _ _ _
      | exact ih1 _ _ _ _ _ _ _
      | exact ih2 _ _ _ _ _ _ _
      | exact curtilagelaw21_awake.mono _
      | exact curtilagelaw21_made.mono _ _ _ _
      | exact curtilageref13_Has.mono _ _ _
      | exact curtilageref13_Short.mono _ _ _
      | exact dl_Count.mono _ _ _ _
      | exact dl_Open.mono _ _ _ _ _
      | exact LeO.none _
      | refine LeO.ite ?_ ?_
      | refine LeO.bind ?_ (fun _ => ?_)
end Go.Proofs.Ytociaidhgefpiaa.P
