/- What functions of the program, and of its laws, give, each proved of its code by a walk; no condition. -/
import Derived.Test.YtociaidhgefpiaaKDlPlaysPx0
import Derived.Test.YtociaidhgefpiaaKDlPlaysPx6
import Derived.Test.YtociaidhgefpiaaKDlPlaysPx9
import Derived.Test.YtociaidhgefpiaaKDlPlaysPx10
import Derived.Test.YtociaidhgefpiaaKDlPlaysPx17
import Derived.Test.YtociaidhgefpiaaKDlPlaysPx20
import Derived.Test.YtociaidhgefpiaaKDlPlaysPx21
import Derived.Test.YtociaidhgefpiaaKDlPlaysPx22
import Derived.Test.YtociaidhgefpiaaKDlPlaysPx23
import Derived.Test.YtociaidhgefpiaaKDlPlaysSq
import Derived.Test.YtociaidhgefpiaaKDlPlaysUsh
namespace Go.Proofs.Ytociaidhgefpiaa.P
open Go.RowKit Go.Proofs.YtociaidhgefpiaaW.PrintWords Go.Proofs.YtociaidhgefpiaaW.PrintLast Go.Proofs.YtociaidhgefpiaaW.PrintMore
attribute [local go_sem] max2_int min2_int max_two min_two max_three min_three max_four min_four   -- for this text's walks alone
set_option linter.unusedVariables false
set_option linter.unusedSimpArgs false

mutual
def curtilagelaw21_DlPlays.j0 : Nat → List (S38) → ByteArray → List (S58) → Bool → Bool → Option (Bool)
  | 0, _, _, _, _, _ => none
  | k + 1, x0, x1, x2, x7, x31 => if x31 = true then (some x7) else ((dl_Begun.f k x0 x1).bind fun bt847 => ((curtilageref21_Open.f k x0 ([] : List Int) ([] : List Int) x1).bind fun bt855 => (if bt847.2.2 = bt855.2.2.2 then ((curtilagelaw21_same.f k bt847.1 bt847.2.1 bt855.1 bt855.2.1).bind fun t866 => (curtilagelaw21_DlPlays.j1 k x0 x2 x7 bt847.2.2 (!t866) bt847.1 bt847.2.1 bt855.1 bt855.2.1)) else (curtilagelaw21_DlPlays.j1 k x0 x2 x7 bt847.2.2 true bt847.1 bt847.2.1 bt855.1 bt855.2.1))))
def curtilagelaw21_DlPlays.j1 : Nat → List (S38) → List (S58) → Bool → Int → Bool → List Int → List Int → List Int → List Int → Option (Bool)
  | 0, _, _, _, _, _, _, _, _, _ => none
  | k + 1, x0, x2, x7, x10, x55, x855000, x855001, x866000, x866001 => if x55 = true then (some false) else (if x10 = 0 then (curtilagelaw21_DlPlays.l0 k x0 x2 x7 0 x855000 x855001 x866000 x866001) else (some x7))
def curtilagelaw21_DlPlays.l0 : Nat → List (S38) → List (S58) → Bool → Int → List Int → List Int → List Int → List Int → Option (Bool)
  | 0, _, _, _, _, _, _, _, _ => none
  | k + 1, x0, x2, x7, x14, x855000, x855001, x866000, x866001 => if x14 < (x2.length : Int) then (if 0 ≤ x14 then (if (rd_T58 x2 x14).f0 = true then ((dl_Open.f k x0 x855000 x855001 ((rd_T58 x2 x14).f1)).bind fun bt869 => ((curtilageref21_Open.f k x0 x866000 x866001 ((rd_T58 x2 x14).f1)).bind fun bt880 => (curtilagelaw21_DlPlays.j3 k x0 x2 x7 bt869.2.2.2 bt880.2.2.2 x14 bt869.2.2.1 bt880.2.2.1 bt869.1 bt869.2.1 bt880.1 bt880.2.1))) else ((dl_Close.f k x0 x855000 x855001 ((rd_T58 x2 x14).f1)).bind fun bt891 => ((curtilageref21_Close.f k x0 x866000 x866001 ((rd_T58 x2 x14).f1)).bind fun bt902 => (curtilagelaw21_DlPlays.j3 k x0 x2 x7 bt891.2.2.2 bt902.2.2.2 x14 bt891.2.2.1 bt902.2.2.1 bt891.1 bt891.2.1 bt902.1 bt902.2.1)))) else (none)) else ((dl_Scope.f k x0 x855000 x855001).bind fun t914 => (curtilagelaw21_DlPlays.l1 k x0 x7 t914 0 x855000 x855001 x866000 x866001))
def curtilagelaw21_DlPlays.j3 : Nat → List (S38) → List (S58) → Bool → Int → Int → Int → List Int → List Int → List Int → List Int → List Int → List Int → Option (Bool)
  | 0, _, _, _, _, _, _, _, _, _, _, _, _ => none
  | k + 1, x0, x2, x7, x10, x13, x14, x15, x16, x855000, x855001, x866000, x866001 => if x10 = x13 then ((curtilagelaw21_same.f k x855000 x855001 x866000 x866001).bind fun t912 => (if t912 = true then ((curtilageref10_Numbers.f k x15 x16).bind fun t913 => (if t913 = true then (curtilagelaw21_DlPlays.l0 k x0 x2 x7 (wrap64 (x14 + 1)) x855000 x855001 x866000 x866001) else (some false))) else (some false))) else (some false)
def curtilagelaw21_DlPlays.l1 : Nat → List (S38) → Bool → List Int → Int → List Int → List Int → List Int → List Int → Option (Bool)
  | 0, _, _, _, _, _, _, _, _ => none
  | k + 1, x0, x7, x17, x18, x855000, x855001, x866000, x866001 => if x18 < (x0.length : Int) then ((dl_Count.f k x855000 x855001 x18).bind fun t921 => (curtilagelaw21_DlPlays.l2 k x0 x7 x17 x18 t921 0 0 x855000 x855001 x866000 x866001)) else (if x7 = true then ((curtilageref21_Scope.f k x0 x866001).bind fun t917 => ((curtilageref10_Numbers.f k x17 t917).bind fun t920 => (some t920))) else (some false))
def curtilagelaw21_DlPlays.l2 : Nat → List (S38) → Bool → List Int → Int → Int → Int → Int → List Int → List Int → List Int → List Int → Option (Bool)
  | 0, _, _, _, _, _, _, _, _, _, _, _ => none
  | k + 1, x0, x7, x17, x18, x19, x20, x21, x855000, x855001, x866000, x866001 => if x21 < (x866001.length : Int) then (if 0 ≤ x21 then (if (rd x866001 x21) = x18 then (curtilagelaw21_DlPlays.l2 k x0 x7 x17 x18 x19 (wrap64 (x20 + 1)) (wrap64 (x21 + 1)) x855000 x855001 x866000 x866001) else (curtilagelaw21_DlPlays.l2 k x0 x7 x17 x18 x19 x20 (wrap64 (x21 + 1)) x855000 x855001 x866000 x866001)) else (none)) else (if x19 = x20 then (curtilagelaw21_DlPlays.l1 k x0 x7 x17 (wrap64 (x18 + 1)) x855000 x855001 x866000 x866001) else (some false))
end
def curtilagelaw21_DlPlays.f (k : Nat) (l0 : List (S38)) (a1 : ByteArray) (l2 : List (S58)) : Option (Bool) := (curtilagelaw21_awake.f k).bind fun t845 => ((curtilageref13_Short.f k l0 12).bind fun t846 => (if t846 = true then (curtilagelaw21_DlPlays.j0 k l0 a1 l2 t845 (decide ((l2.length : Int) > 40))) else (curtilagelaw21_DlPlays.j0 k l0 a1 l2 t845 true)))
theorem curtilagelaw21_DlPlays.mono_l : ∀ k, (∀ y0 y1 y2 y3 y4, LeO (curtilagelaw21_DlPlays.j0 k y0 y1 y2 y3 y4) (curtilagelaw21_DlPlays.j0 (k + 1) y0 y1 y2 y3 y4)) ∧ (∀ y0 y1 y2 y3 y4 y5 y6 y7 y8, LeO (curtilagelaw21_DlPlays.j1 k y0 y1 y2 y3 y4 y5 y6 y7 y8) (curtilagelaw21_DlPlays.j1 (k + 1) y0 y1 y2 y3 y4 y5 y6 y7 y8)) ∧ (∀ y0 y1 y2 y3 y4 y5 y6 y7, LeO (curtilagelaw21_DlPlays.l0 k y0 y1 y2 y3 y4 y5 y6 y7) (curtilagelaw21_DlPlays.l0 (k + 1) y0 y1 y2 y3 y4 y5 y6 y7)) ∧ (∀ y0 y1 y2 y3 y4 y5 y6 y7 y8 y9 y10 y11, LeO (curtilagelaw21_DlPlays.j3 k y0 y1 y2 y3 y4 y5 y6 y7 y8 y9 y10 y11) (curtilagelaw21_DlPlays.j3 (k + 1) y0 y1 y2 y3 y4 y5 y6 y7 y8 y9 y10 y11)) ∧ (∀ y0 y1 y2 y3 y4 y5 y6 y7, LeO (curtilagelaw21_DlPlays.l1 k y0 y1 y2 y3 y4 y5 y6 y7) (curtilagelaw21_DlPlays.l1 (k + 1) y0 y1 y2 y3 y4 y5 y6 y7)) ∧ (∀ y0 y1 y2 y3 y4 y5 y6 y7 y8 y9 y10, LeO (curtilagelaw21_DlPlays.l2 k y0 y1 y2 y3 y4 y5 y6 y7 y8 y9 y10) (curtilagelaw21_DlPlays.l2 (k + 1) y0 y1 y2 y3 y4 y5 y6 y7 y8 y9 y10))
  | 0 => ⟨fun _ _ _ _ _ r h => by simp [curtilagelaw21_DlPlays.j0] at h, fun _ _ _ _ _ _ _ _ _ r h => by simp [curtilagelaw21_DlPlays.j1] at h, fun _ _ _ _ _ _ _ _ r h => by simp [curtilagelaw21_DlPlays.l0] at h, fun _ _ _ _ _ _ _ _ _ _ _ _ r h => by simp [curtilagelaw21_DlPlays.j3] at h, fun _ _ _ _ _ _ _ _ r h => by simp [curtilagelaw21_DlPlays.l1] at h, fun _ _ _ _ _ _ _ _ _ _ _ r h => by simp [curtilagelaw21_DlPlays.l2] at h⟩
  | k + 1 => by
    obtain ⟨ih0, ih1, ih2, ih3, ih4, ih5⟩ := curtilagelaw21_DlPlays.mono_l k
    refine ⟨?_, ?_, ?_, ?_, ?_, ?_⟩
    · intro y0 y1 y2 y3 y4
      unfold curtilagelaw21_DlPlays.j0
      repeat' first
      | (with_reducible exact ih0 _ _ _ _ _)
      | (with_reducible exact ih1 _ _ _ _ _ _ _ _ _)
      | (with_reducible exact ih2 _ _ _ _ _ _ _ _)
      | (with_reducible exact ih3 _ _ _ _ _ _ _ _ _ _ _ _)
      | (with_reducible exact ih4 _ _ _ _ _ _ _ _)
      | (with_reducible exact ih5 _ _ _ _ _ _ _ _ _ _ _)
      | (with_reducible exact curtilagelaw21_awake.mono _)
      | (with_reducible exact curtilagelaw21_same.mono _ _ _ _ _)
      | (with_reducible exact curtilageref10_Numbers.mono _ _ _)
      | (with_reducible exact curtilageref13_Short.mono _ _ _)
      | (with_reducible exact curtilageref21_Close.mono _ _ _ _ _)
      | (with_reducible exact curtilageref21_Open.mono _ _ _ _ _)
      | (with_reducible exact curtilageref21_Scope.mono _ _ _)
      | (with_reducible exact dl_Begun.mono _ _ _)
      | (with_reducible exact dl_Close.mono _ _ _ _ _)
      | (with_reducible exact dl_Count.mono _ _ _ _)
      | (with_reducible exact dl_Open.mono _ _ _ _ _)
      | (with_reducible exact dl_Scope.mono _ _ _ _)
      | (with_reducible exact LeO.refl _)
      | (with_reducible exact LeO.none _)
      | (with_reducible refine LeO.ite ?_ ?_)
      | (with_reducible refine LeO.bind ?_ (fun _ => ?_))
      | exact ih0 _ _ _ _ _
      | exact ih1 _ _ _ _ _ _ _ _ _
      | exact ih2 _ _ _ _ _ _ _ _
      | exact ih3 _ _ _ _ _ _ _ _ _ _ _ _
      | exact ih4 _ _ _ _ _ _ _ _
      | exact ih5 _ _ _ _ _ _ _ _ _ _ _
      | exact curtilagelaw21_awake.mono _
      | exact curtilagelaw21_same.mono _ _ _ _ _
      | exact curtilageref10_Numbers.mono _ _ _
      | exact curtilageref13_Short.mono _ _ _
      | exact curtilageref21_Close.mono _ _ _ _ _
      | exact curtilageref21_Open.mono _ _ _ _ _
      | exact curtilageref21_Scope.mono _ _ _
      | exact dl_Begun.mono _ _ _
      | exact dl_Close.mono _ _ _ _ _
      | exact dl_Count.mono _ _ _ _
      | exact dl_Open.mono _ _ _ _ _
      | exact dl_Scope.mono _ _ _ _
      | exact LeO.none _
      | refine LeO.ite ?_ ?_
      | refine LeO.bind ?_ (fun _ => ?_)
    · intro y0 y1 y2 y3 y4 y5 y6 y7 y8
      unfold curtilagelaw21_DlPlays.j1
      repeat' first
      | (with_reducible exact ih0 _ _ _ _ _)
      | (with_reducible exact ih1 _ _ _ _ _ _ _ _ _)
      | (with_reducible exact ih2 _ _ _ _ _ _ _ _)
      | (with_reducible exact ih3 _ _ _ _ _ _ _ _ _ _ _ _)
      | (with_reducible exact ih4 _ _ _ _ _ _ _ _)
      | (with_reducible exact ih5 _ _ _ _ _ _ _ _ _ _ _)
      | (with_reducible exact curtilagelaw21_awake.mono _)
      | (with_reducible exact curtilagelaw21_same.mono _ _ _ _ _)
      | (with_reducible exact curtilageref10_Numbers.mono _ _ _)
      | (with_reducible exact curtilageref13_Short.mono _ _ _)
      | (with_reducible exact curtilageref21_Close.mono _ _ _ _ _)
      | (with_reducible exact curtilageref21_Open.mono _ _ _ _ _)
      | (with_reducible exact curtilageref21_Scope.mono _ _ _)
      | (with_reducible exact dl_Begun.mono _ _ _)
      | (with_reducible exact dl_Close.mono _ _ _ _ _)
      | (with_reducible exact dl_Count.mono _ _ _ _)
      | (with_reducible exact dl_Open.mono _ _ _ _ _)
      | (with_reducible exact dl_Scope.mono _ _ _ _)
      | (with_reducible exact LeO.refl _)
      | (with_reducible exact LeO.none _)
      | (with_reducible refine LeO.ite ?_ ?_)
      | (with_reducible refine LeO.bind ?_ (fun _ => ?_))
      | exact ih0 _ _ _ _ _
      | exact ih1 _ _ _ _ _ _ _ _ _
      | exact ih2 _ _ _ _ _ _ _ _
      | exact ih3 _ _ _ _ _ _ _ _ _ _ _ _
      | exact ih4 _ _ _ _ _ _ _ _
      | exact ih5 _ _ _ _ _ _ _ _ _ _ _
      | exact curtilagelaw21_awake.mono _
      | exact curtilagelaw21_same.mono _ _ _ _ _
      | exact curtilageref10_Numbers.mono _ _ _
      | exact curtilageref13_Short.mono _ _ _
      | exact curtilageref21_Close.mono _ _ _ _ _
      | exact curtilageref21_Open.mono _ _ _ _ _
      | exact curtilageref21_Scope.mono _ _ _
      | exact dl_Begun.mono _ _ _
      | exact dl_Close.mono _ _ _ _ _
      | exact dl_Count.mono _ _ _ _
      | exact dl_Open.mono _ _ _ _ _
      | exact dl_Scope.mono _ _ _ _
      | exact LeO.none _
      | refine LeO.ite ?_ ?_
      | refine LeO.bind ?_ (fun _ => ?_)
    · intro y0 y1 y2 y3 y4 y5 y6 y7
      unfold curtilagelaw21_DlPlays.l0
      repeat' first
      | (with_reducible exact ih0 _ _ _ _ _)
      | (with_reducible exact ih1 _ _ _ _ _ _ _ _ _)
      | (with_reducible exact ih2 _ _ _ _ _ _ _ _)
      | (with_reducible exact ih3 _ _ _ _ _ _ _ _ _ _ _ _)
      | (with_reducible exact ih4 _ _ _ _ _ _ _ _)
      | (with_reducible exact ih5 _ _ _ _ _ _ _ _ _ _ _)
      | (with_reducible exact curtilagelaw21_awake.mono _)
      | (with_reducible exact curtilagelaw21_same.mono _ _ _ _ _)
      | (with_reducible exact curtilageref10_Numbers.mono _ _ _)
      | (with_reducible exact curtilageref13_Short.mono _ _ _)
      | (with_reducible exact curtilageref21_Close.mono _ _ _ _ _)
      | (with_reducible exact curtilageref21_Open.mono _ _ _ _ _)
      | (with_reducible exact curtilageref21_Scope.mono _ _ _)
      | (with_reducible exact dl_Begun.mono _ _ _)
      | (with_reducible exact dl_Close.mono _ _ _ _ _)
      | (with_reducible exact dl_Count.mono _ _ _ _)
      | (with_reducible exact dl_Open.mono _ _ _ _ _)
      | (with_reducible exact dl_Scope.mono _ _ _ _)
      | (with_reducible exact LeO.refl _)
      | (with_reducible exact LeO.none _)
      | (with_reducible refine LeO.ite ?_ ?_)
      | (with_reducible refine LeO.bind ?_ (fun _ => ?_))
      | exact ih0 _ _ _ _ _
      | exact ih1 _ _ _ _ _ _ _ _ _
      | exact ih2 _ _ _ _ _ _ _ _
      | exact ih3 _ _ _ _ _ _ _ _ _ _ _ _
      | exact ih4 _ _ _ _ _ _ _ _
      | exact ih5 _ _ _ _ _ _ _ _ _ _ _
      | exact curtilagelaw21_awake.mono _
      | exact curtilagelaw21_same.mono _ _ _ _ _
      | exact curtilageref10_Numbers.mono _ _ _
      | exact curtilageref13_Short.mono _ _ _
      | exact curtilageref21_Close.mono _ _ _ _ _
      | exact curtilageref21_Open.mono _ _ _ _ _
      | exact curtilageref21_Scope.mono _ _ _
      | exact dl_Begun.mono _ _ _
      | exact dl_Close.mono _ _ _ _ _
      | exact dl_Count.mono _ _ _ _
      | exact dl_Open.mono _ _ _ _ _
      | exact dl_Scope.mono _ _ _ _
      | exact LeO.none _
      | refine LeO.ite ?_ ?_
      | refine LeO.bind ?_ (fun _ => ?_)
    · intro y0 y1 y2 y3 y4 y5 y6 y7 y8 y9 y10 y11
      unfold curtilagelaw21_DlPlays.j3
      repeat' first
      | (with_reducible exact ih0 _ _ _ _ _)
      | (with_reducible exact ih1 _ _ _ _ _ _ _ _ _)
      | (with_reducible exact ih2 _ _ _ _ _ _ _ _)
      | (with_reducible exact ih3 _ _ _ _ _ _ _ _ _ _ _ _)
      | (with_reducible exact ih4 _ _ _ _ _ _ _ _)
      | (with_reducible exact ih5 _ _ _ _ _ _ _ _ _ _ _)
      | (with_reducible exact curtilagelaw21_awake.mono _)
      | (with_reducible exact curtilagelaw21_same.mono _ _ _ _ _)
      | (with_reducible exact curtilageref10_Numbers.mono _ _ _)
      | (with_reducible exact curtilageref13_Short.mono _ _ _)
      | (with_reducible exact curtilageref21_Close.mono _ _ _ _ _)
      | (with_reducible exact curtilageref21_Open.mono _ _ _ _ _)
      | (with_reducible exact curtilageref21_Scope.mono _ _ _)
      | (with_reducible exact dl_Begun.mono _ _ _)
      | (with_reducible exact dl_Close.mono _ _ _ _ _)
      | (with_reducible exact dl_Count.mono _ _ _ _)
      | (with_reducible exact dl_Open.mono _ _ _ _ _)
      | (with_reducible exact dl_Scope.mono _ _ _ _)
      | (with_reducible exact LeO.refl _)
      | (with_reducible exact LeO.none _)
      | (with_reducible refine LeO.ite ?_ ?_)
      | (with_reducible refine LeO.bind ?_ (fun _ => ?_))
      | exact ih0 _ _ _ _ _
      | exact ih1 _ _ _ _ _ _ _ _ _
      | exact ih2 _ _ _ _ _ _ _ _
      | exact ih3 _ _ _ _ _ _ _ _ _ _ _ _
      | exact ih4 _ _ _ _ _ _ _ _
      | exact ih5 _ _ _ _ _ _ _ _ _ _ _
      | exact curtilagelaw21_awake.mono _
      | exact curtilagelaw21_same.mono _ _ _ _ _
      | exact curtilageref10_Numbers.mono _ _ _
      | exact curtilageref13_Short.mono _ _ _
      | exact curtilageref21_Close.mono _ _ _ _ _
      | exact curtilageref21_Open.mono _ _ _ _ _
      | exact curtilageref21_Scope.mono _ _ _
      | exact dl_Begun.mono _ _ _
      | exact dl_Close.mono _ _ _ _ _
      | exact dl_Count.mono _ _ _ _
      | exact dl_Open.mono _ _ _ _ _
      | exact dl_Scope.mono _ _ _ _
      | exact LeO.none _
      | refine LeO.ite ?_ ?_
      | refine LeO.bind ?_ (fun _ => ?_)
    · intro y0 y1 y2 y3 y4 y5 y6 y7
      unfold curtilagelaw21_DlPlays.l1
      repeat' first
      | (with_reducible exact ih0 _ _ _ _ _)
      | (with_reducible exact ih1 _ _ _ _ _ _ _ _ _)
      | (with_reducible exact ih2 _ _ _ _ _ _ _ _)
      | (with_reducible exact ih3 _ _ _ _ _ _ _ _ _ _ _ _)
      | (with_reducible exact ih4 _ _ _ _ _ _ _ _)
      | (with_reducible exact ih5 _ _ _ _ _ _ _ _ _ _ _)
      | (with_reducible exact curtilagelaw21_awake.mono _)
      | (with_reducible exact curtilagelaw21_same.mono _ _ _ _ _)
      | (with_reducible exact curtilageref10_Numbers.mono _ _ _)
      | (with_reducible exact curtilageref13_Short.mono _ _ _)
      | (with_reducible exact curtilageref21_Close.mono _ _ _ _ _)
      | (with_reducible exact curtilageref21_Open.mono _ _ _ _ _)
      | (with_reducible exact curtilageref21_Scope.mono _ _ _)
      | (with_reducible exact dl_Begun.mono _ _ _)
      | (with_reducible exact dl_Close.mono _ _ _ _ _)
      | (with_reducible exact dl_Count.mono _ _ _ _)
      | (with_reducible exact dl_Open.mono _ _ _ _ _)
      | (with_reducible exact dl_Scope.mono _ _ _ _)
      | (with_reducible exact LeO.refl _)
      | (with_reducible exact LeO.none _)
      | (with_reducible refine LeO.ite ?_ ?_)
      | (with_reducible refine LeO.bind ?_ (fun _ => ?_))
      | exact ih0 _ _ _ _ _
      | exact ih1 _ _ _ _ _ _ _ _ _
      | exact ih2 _ _ _ _ _ _ _ _
      | exact ih3 _ _ _ _ _ _ _ _ _ _ _ _
      | exact ih4 _ _ _ _ _ _ _ _
      | exact ih5 _ _ _ _ _ _ _ _ _ _ _
      | exact curtilagelaw21_awake.mono _
      | exact curtilagelaw21_same.mono _ _ _ _ _
      | exact curtilageref10_Numbers.mono _ _ _
      | exact curtilageref13_Short.mono _ _ _
      | exact curtilageref21_Close.mono _ _ _ _ _
      | exact curtilageref21_Open.mono _ _ _ _ _
      | exact curtilageref21_Scope.mono _ _ _
      | exact dl_Begun.mono _ _ _
      | exact dl_Close.mono _ _ _ _ _
      | exact dl_Count.mono _ _ _ _
      | exact dl_Open.mono _ _ _ _ _
      | exact dl_Scope.mono _ _ _ _
      | exact LeO.none _
      | refine LeO.ite ?_ ?_
      | refine LeO.bind ?_ (fun _ => ?_)
    · intro y0 y1 y2 y3 y4 y5 y6 y7 y8 y9 y10
      unfold curtilagelaw21_DlPlays.l2
      repeat' first
      | (with_reducible exact ih0 _ _ _ _ _)
      | (with_reducible exact ih1 _ _ _ _ _ _ _ _ _)
      | (with_reducible exact ih2 _ _ _ _ _ _ _ _)
      | (with_reducible exact ih3 _ _ _ _ _ _ _ _ _ _ _ _)
      | (with_reducible exact ih4 _ _ _ _ _ _ _ _)
      | (with_reducible exact ih5 _ _ _ _ _ _ _ _ _ _ _)
      | (with_reducible exact curtilagelaw21_awake.mono _)
      | (with_reducible exact curtilagelaw21_same.mono _ _ _ _ _)
      | (with_reducible exact curtilageref10_Numbers.mono _ _ _)
      | (with_reducible exact curtilageref13_Short.mono _ _ _)
      | (with_reducible exact curtilageref21_Close.mono _ _ _ _ _)
      | (with_reducible exact curtilageref21_Open.mono _ _ _ _ _)
      | (with_reducible exact curtilageref21_Scope.mono _ _ _)
      | (with_reducible exact dl_Begun.mono _ _ _)
      | (with_reducible exact dl_Close.mono _ _ _ _ _)
      | (with_reducible exact dl_Count.mono _ _ _ _)
      | (with_reducible exact dl_Open.mono _ _ _ _ _)
      | (with_reducible exact dl_Scope.mono _ _ _ _)
      | (with_reducible exact LeO.refl _)
      | (with_reducible exact LeO.none _)
      | (with_reducible refine LeO.ite ?_ ?_)
      | (with_reducible refine LeO.bind ?_ (fun _ => ?_))
      | exact ih0 _ _ _ _ _
      | exact ih1 _ _ _ _ _ _ _ _ _
      | exact ih2 _ _ _ _ _ _ _ _
      | exact ih3 _ _ _ _ _ _ _ _ _ _ _ _
      | exact ih4 _ _ _ _ _ _ _ _
      | exact ih5 _ _ _ _ _ _ _ _ _ _ _
      | exact curtilagelaw21_awake.mono _
      | exact curtilagelaw21_same.mono _ _ _ _ _
      | exact curtilageref10_Numbers.mono _ _ _
      | exact curtilageref13_Short.mono _ _ _
      | exact curtilageref21_Close.mono _ _ _ _ _
      | exact curtilageref21_Open.mono _ _ _ _ _
      | exact curtilageref21_Scope.mono _ _ _
      | exact dl_Begun.mono _ _ _
      | exact dl_Close.mono _ _ _ _ _
      | exact dl_Count.mono _ _ _ _
      | exact dl_Open.mono _ _ _ _ _
      | exact dl_Scope.mono _ _ _ _
      | exact LeO.none _
      | refine LeO.ite ?_ ?_
      | refine LeO.bind ?_ (fun _ => ?_)
theorem curtilagelaw21_DlPlays.mono : ∀ a0 a1 a2 k, LeO (curtilagelaw21_DlPlays.f k a0 a1 a2) (curtilagelaw21_DlPlays.f (k + 1) a0 a1 a2) := by
  intro a0 a1 a2 k
  obtain ⟨ih0, ih1, ih2, ih3, ih4, ih5⟩ := curtilagelaw21_DlPlays.mono_l k
  unfold curtilagelaw21_DlPlays.f
  repeat' first
      | (with_reducible exact ih0 _ _ _ _ _)
      | (with_reducible exact ih1 _ _ _ _ _ _ _ _ _)
      | (with_reducible exact ih2 _ _ _ _ _ _ _ _)
      | (with_reducible exact ih3 _ _ _ _ _ _ _ _ _ _ _ _)
      | (with_reducible exact ih4 _ _ _ _ _ _ _ _)
      | (with_reducible exact ih5 _ _ _ _ _ _ _ _ _ _ _)
      | (with_reducible exact curtilagelaw21_awake.mono _)
      | (with_reducible exact curtilagelaw21_same.mono _ _ _ _ _)
      | (with_reducible exact curtilageref10_Numbers.mono _ _ _)
      | (with_reducible exact curtilageref13_Short.mono _ _ _)
      | (with_reducible exact curtilageref21_Close.mono _ _ _ _ _)
      | (with_reducible exact curtilageref21_Open.mono _ _ _ _ _)
      | (with_reducible exact curtilageref21_Scope.mono _ _ _)
      | (with_reducible exact dl_Begun.mono _ _ _)
      | (with_reducible exact dl_Close.mono _ _ _ _ _)
      | (with_reducible exact dl_Count.mono _ _ _ _)
      | (with_reducible exact dl_Open.mono _ _ _ _ _)
      | (with_reducible exact dl_Scope.mono _ _ _ _)
      | (with_reducible exact LeO.refl _)
      | (with_reducible exact LeO.none _)
      | (with_reducible refine LeO.ite ?_ ?_)
      | (with_reducible refine LeO.bind ?_ (fun _ => ?_))
      | exact ih0 _ _ _ _ _
      | exact ih1 _ _ _ _ _ _ _ _ _
      | exact ih2 _ _ _ _ _ _ _ _
      | exact ih3 _ _ _ _ _ _ _ _ _ _ _ _
      | exact ih4 _ _ _ _ _ _ _ _
      | exact ih5 _ _ _ _ _ _ _ _ _ _ _
      | exact curtilagelaw21_awake.mono _
      | exact curtilagelaw21_same.mono _ _ _ _ _
      | exact curtilageref10_Numbers.mono _ _ _
      | exact curtilageref13_Short.mono _ _ _
      | exact curtilageref21_Close.mono _ _ _ _ _
      | exact curtilageref21_Open.mono _ _ _ _ _
      | exact curtilageref21_Scope.mono _ _ _
      | exact dl_Begun.mono _ _ _
      | exact dl_Close.mono _ _ _ _ _
      | exact dl_Count.mono _ _ _ _
      | exact dl_Open.mono _ _ _ _ _
      | exact dl_Scope.mono _ _ _ _
      | exact LeO.none _
      | refine LeO.ite ?_ ?_
      | refine LeO.bind ?_ (fun _ => ?_)
def curtilagelaw21_DlPlays.T17 : Bool × List (List Nat × List Nat) := (true, [([], []), ([], []), ([], []), ([], []), ([2, 3], [2, 3]), ([4], [4]), ([5], [5]), ([0, 1, 6], [0, 1, 6]), ([7], [7]), ([8], [8]), ([8], [8]), ([8], [8]), ([9, 7, 0, 1, 2, 3, 4, 5, 6, 7, 8, 9], [9]), ([10, 12, 0, 1, 2, 3, 4, 5, 6, 7, 8, 9, 10, 12], [10]), ([11, 13, 0, 1, 2, 3, 4, 5, 6, 7, 8, 9, 10, 11, 12, 13], [11])])
def curtilagelaw21_DlPlays.B17 : List Nat := [0, 0, 0, 0, 12, 28, 60, 127, 255, 511, 511, 511, 1023, 6143, 16383]
theorem curtilagelaw21_DlPlays.tab17 : rtab .any (opsOf Try.f8 17) = curtilagelaw21_DlPlays.T17 := by kernel_rfl
theorem curtilagelaw21_DlPlays.bits17 : waitsOk curtilagelaw21_DlPlays.T17.2 curtilagelaw21_DlPlays.B17 = true := by kernel_rfl
def curtilagelaw21_DlPlays.T18 : Bool × List (List Nat × List Nat) := (true, [([], []), ([], []), ([], []), ([], []), ([2, 3], [2, 3]), ([4], [4]), ([5], [5]), ([0, 1, 6], [0, 1, 6]), ([7], [7]), ([8], [8]), ([8], [8]), ([8], [8]), ([9, 7, 0, 1, 2, 3, 4, 5, 6, 7, 8, 9], [9]), ([10, 12, 0, 1, 2, 3, 4, 5, 6, 7, 8, 9, 10, 12], [10]), ([11, 13, 0, 1, 2, 3, 4, 5, 6, 7, 8, 9, 10, 11, 12, 13], [11])])
def curtilagelaw21_DlPlays.B18 : List Nat := [0, 0, 0, 0, 12, 28, 60, 127, 255, 511, 511, 511, 1023, 6143, 16383]
theorem curtilagelaw21_DlPlays.tab18 : rtab .any (opsOf Try.f8 18) = curtilagelaw21_DlPlays.T18 := by kernel_rfl
theorem curtilagelaw21_DlPlays.bits18 : waitsOk curtilagelaw21_DlPlays.T18.2 curtilagelaw21_DlPlays.B18 = true := by kernel_rfl
def curtilagelaw21_DlPlays.T19 : Bool × List (List Nat × List Nat) := (true, [([], []), ([], []), ([], []), ([], []), ([2, 3], [2, 3]), ([4], [4]), ([5], [5]), ([0, 1, 6], [0, 1, 6]), ([7], [7]), ([8], [8]), ([8], [8]), ([8], [8]), ([9, 7, 0, 1, 2, 3, 4, 5, 6, 7, 8, 9], [9]), ([10, 12, 0, 1, 2, 3, 4, 5, 6, 7, 8, 9, 10, 12], [10]), ([11, 13, 0, 1, 2, 3, 4, 5, 6, 7, 8, 9, 10, 11, 12, 13], [11])])
def curtilagelaw21_DlPlays.B19 : List Nat := [0, 0, 0, 0, 12, 28, 60, 127, 255, 511, 511, 511, 1023, 6143, 16383]
theorem curtilagelaw21_DlPlays.tab19 : rtab .any (opsOf Try.f8 19) = curtilagelaw21_DlPlays.T19 := by kernel_rfl
theorem curtilagelaw21_DlPlays.bits19 : waitsOk curtilagelaw21_DlPlays.T19.2 curtilagelaw21_DlPlays.B19 = true := by kernel_rfl
def curtilagelaw21_DlPlays.T20 : Bool × List (List Nat × List Nat) := (true, [([], []), ([], []), ([], []), ([], []), ([2, 3], [2, 3]), ([4], [4]), ([5], [5]), ([0, 1, 6], [0, 1, 6]), ([7], [7]), ([8], [8]), ([8], [8]), ([8], [8]), ([9, 7, 0, 1, 2, 3, 4, 5, 6, 7, 8, 9], [9]), ([10, 12, 0, 1, 2, 3, 4, 5, 6, 7, 8, 9, 10, 12], [10]), ([11, 13, 0, 1, 2, 3, 4, 5, 6, 7, 8, 9, 10, 11, 12, 13], [11])])
def curtilagelaw21_DlPlays.B20 : List Nat := [0, 0, 0, 0, 12, 28, 60, 127, 255, 511, 511, 511, 1023, 6143, 16383]
theorem curtilagelaw21_DlPlays.tab20 : rtab .any (opsOf Try.f8 20) = curtilagelaw21_DlPlays.T20 := by kernel_rfl
theorem curtilagelaw21_DlPlays.bits20 : waitsOk curtilagelaw21_DlPlays.T20.2 curtilagelaw21_DlPlays.B20 = true := by kernel_rfl
set_option maxHeartbeats 8000000 in
set_option maxRecDepth 100000 in
theorem curtilagelaw21_DlPlays.calls (k : Nat) (A0 : Option Addr) (c0 : Nat) (l0 : List (S38)) (a1 : ByteArray) (A2 : Option Addr) (c2 : Nat) (l2 : List (S58)) (r : Bool) (w : World) (hr0 : Kd.C k38 w A0 l0.length l0) (hc0 : l0.length ≤ c0) (hr2 : Kd.C k58 w A2 l2.length l2) (hc2 : l2.length ≤ c2) (h : curtilagelaw21_DlPlays.f k l0 a1 l2 = some r) (hr0 : r = true) :
  Calls Try.prog 8 #[.slice A0 l0.length c0, .string a1, .slice A2 l2.length c2] w fun e w' => e = .returned (.bool r) ∧ Below w.heap.size w w' := by
 have HT := am hr0
 clear hr0
 have hu28 := Try.underlying28
 have hu53 := Try.underlying53
 have HR0 := am hr0
 have HC0 := am hc0
 clear hr0 hc0
 have HR2 := am hr2
 have HC2 := am hc2
 clear hr2 hc2
 have HB := am (Below.refl w.heap.size w)
 have H : ((curtilagelaw21_awake.f k).bind fun t845 => ((curtilageref13_Short.f k l0 12).bind fun t846 => (if t846 = true then (curtilagelaw21_DlPlays.j0 k l0 a1 l2 t845 (decide ((l2.length : Int) > 40))) else (curtilagelaw21_DlPlays.j0 k l0 a1 l2 t845 true)))) = some r := h
 clear h
 replace H := Option.bind_eq_some_iff.mp H
 obtain ⟨t845, A40, H⟩ := H
 replace H : ((curtilageref13_Short.f k l0 12).bind fun t846 => (if t846 = true then (curtilagelaw21_DlPlays.j0 k l0 a1 l2 t845 (decide ((l2.length : Int) > 40))) else (curtilagelaw21_DlPlays.j0 k l0 a1 l2 t845 true))) = some r := H
 have A4 := am A40
 clear A40
 replace H := Option.bind_eq_some_iff.mp H
 obtain ⟨t846, A50, H⟩ := H
 replace H : (if t846 = true then (curtilagelaw21_DlPlays.j0 k l0 a1 l2 t845 (decide ((l2.length : Int) > 40))) else (curtilagelaw21_DlPlays.j0 k l0 a1 l2 t845 true)) = some r := H
 have A5 := am A50
 clear A50
 have HC6 := am H
 clear H
 go_enter Try.func8, Try.ntmps8
 go_upto_region 3 with (first | ((with_reducible refine gate_dst (N := 22) rfl ?_); (with_reducible refine gate_callee (f := 9) rfl ?_); refine gl (some 22) Try.func9 #[] ?_; (with_reducible refine (curtilagelaw21_awake.calls k  t845 _ A4.out).mono ?_); rintro e w7 ⟨rfl, hb⟩; refine ⟨_, rfl, ?_⟩; have n0_ := am (below_step (uc HB.out) hb); revert n0_; clear HB; intro HB; (try clear hb); (try clear hb2); (try clear hk); (try clear hi)) | ((with_reducible refine gate_dst (N := 24) rfl ?_); (with_reducible refine gate_callee (f := 10) rfl ?_); refine gl (some 24) Try.func10 #[.slice A0 l0.length c0, .int .i64 12] ?_; (with_reducible refine (curtilageref13_Short.calls k _ _ l0 12 t846 _ ?side1 ?side2 A5.out).mono ?_); (case side1 => exact us (Kd.C_below HR0.out HB.out)); (case side2 => exact HC0.out); rintro e w' ⟨rfl, ⟨nd, rfl⟩⟩; refine ⟨_, rfl, ?_⟩))
 (try simp only [Act.put, List.setIfInBounds_toArray, List.set_cons_zero, List.set_cons_succ])
 go_cut [31] (fun v31 wc => ∃ (kq : Nat) (x31_5 : Bool), v31 = .bool x31_5 ∧ Aside0 (curtilagelaw21_DlPlays.j0 kq l0 a1 l2 t845 x31_5 = some r) ∧ Aside0 (kq ≤ k) ∧ Aside0 (Below w.heap.size w wc))
 case first =>
  have H := HC6.out
  clear HC6
  by_cases c8 : t846 = true
  ·subst c8
   have H1 : (curtilagelaw21_DlPlays.j0 k l0 a1 l2 t845 (decide ((l2.length : Int) > 40))) = some r := by rw [if_pos rfl] at H; exact H
   clear H
   have H := H1
   clear H1
   have H' := am H
   clear H
   go_wp2
   go_meet
   case rel => exact ⟨_, (decide ((l2.length : Int) > 40)), uf, H', ⟨by first | omega | exact Nat.le_refl _⟩, ⟨uc HB.out⟩⟩
  ·replace c8 := Bool.eq_false_iff.mpr c8
   subst c8
   have H1 : (curtilagelaw21_DlPlays.j0 k l0 a1 l2 t845 true) = some r := by rw [if_neg (show ¬ (false = true) by decide)] at H; exact H
   clear H
   have H := H1
   clear H1
   have H' := am H
   clear H
   go_wp2
   go_meet
   case rel => exact ⟨_, (true), uf, H', ⟨by first | omega | exact Nat.le_refl _⟩, ⟨uc HB.out⟩⟩
 case rest =>
  clear HC6
  try clear c1
  try clear c2
  try clear p2
  try clear c8
  obtain ⟨kq, x31_5, rfl, HA, HJ5, HB⟩ := hcut
  cases kq with
  | zero => exact absurd HA.out (by simp [curtilagelaw21_DlPlays.j0])
  | succ kj5 =>
   have H := HA.out
   clear HA
   simp only [curtilagelaw21_DlPlays.j0] at H
   by_cases c9 : x31_5 = true
   ·subst c9
    have H1 : (some t845) = some r := by rw [if_pos rfl] at H; exact H
    clear H
    have H := H1
    clear H1
    obtain rfl := Option.some.inj H
    go_wp2
    go_ret
    exact ⟨by first | rfl | (simp [errW_none, errW_some] <;> rfl) | (simp [*, errW_none, errW_some] <;> rfl), uc HB.out⟩
   ·replace c9 := Bool.eq_false_iff.mpr c9
    subst c9
    have H1 : ((dl_Begun.f kj5 l0 a1).bind fun bt847 => ((curtilageref21_Open.f kj5 l0 ([] : List Int) ([] : List Int) a1).bind fun bt855 => (if bt847.2.2 = bt855.2.2.2 then ((curtilagelaw21_same.f kj5 bt847.1 bt847.2.1 bt855.1 bt855.2.1).bind fun t866 => (curtilagelaw21_DlPlays.j1 kj5 l0 l2 t845 bt847.2.2 (!t866) bt847.1 bt847.2.1 bt855.1 bt855.2.1)) else (curtilagelaw21_DlPlays.j1 kj5 l0 l2 t845 bt847.2.2 true bt847.1 bt847.2.1 bt855.1 bt855.2.1)))) = some r := by rw [if_neg (show ¬ (false = true) by decide)] at H; exact H
    clear H
    have H := H1
    clear H1
    replace H := Option.bind_eq_some_iff.mp H
    obtain ⟨⟨t847, t850, t853⟩, A100, H⟩ := H
    replace H : ((curtilageref21_Open.f kj5 l0 ([] : List Int) ([] : List Int) a1).bind fun bt855 => (if t853 = bt855.2.2.2 then ((curtilagelaw21_same.f kj5 t847 t850 bt855.1 bt855.2.1).bind fun t866 => (curtilagelaw21_DlPlays.j1 kj5 l0 l2 t845 t853 (!t866) t847 t850 bt855.1 bt855.2.1)) else (curtilagelaw21_DlPlays.j1 kj5 l0 l2 t845 t853 true t847 t850 bt855.1 bt855.2.1))) = some r := H
    have A10 := am A100
    clear A100
    replace H := Option.bind_eq_some_iff.mp H
    obtain ⟨⟨t855, t858, t861, t864⟩, A110, H⟩ := H
    replace H : (if t853 = t864 then ((curtilagelaw21_same.f kj5 t847 t850 t855 t858).bind fun t866 => (curtilagelaw21_DlPlays.j1 kj5 l0 l2 t845 t853 (!t866) t847 t850 t855 t858)) else (curtilagelaw21_DlPlays.j1 kj5 l0 l2 t845 t853 true t847 t850 t855 t858)) = some r := H
    have A11 := am A110
    clear A110
    have HC12 := am H
    clear H
    go_upto_region 7 with (first | ((with_reducible refine gate_dst (N := 36) rfl ?_); (with_reducible refine gate_callee (f := 20) rfl ?_); refine gl (some 36) Try.func20 #[.slice A0 l0.length c0, .string a1] ?_; (with_reducible refine (dl_Begun.calls kj5 _ _ l0 a1 t847 t850 t853 _ ?side1 ?side2 A10.out).mono ?_); (case side1 => exact us (Kd.C_below HR0.out HB.out)); (case side2 => exact HC0.out); rintro e w13 ⟨v848, v851, rfl, ho0, ho1, hb⟩; refine ⟨_, rfl, ?_⟩; have n0_ := am (Kd.R_lower ho0 (below_size (uc HB.out))); have n1_ := am (Kd.R_lower ho1 (below_size (uc HB.out))); have n2_ := am (below_step (uc HB.out) hb); revert n0_ n1_ n2_; clear HB; intro HO849 HO852 HB; (try clear hb); (try clear hb2); (try clear hk); (try clear hi); (try clear ho0); (try clear ho1)) | ((with_reducible refine gate_dst (N := 9) rfl ?_); (try (refine gate_guard (by rfl) ?_; dsimp only)); refine box_event ?hg (N := 9) ?hd (cs := #[.slice none 0 0, .slice none 0 0]) (t := 28) ?hr ?_; (case hd => rfl); (case hg => rfl); (case hr => first | (go_simp; done) | (go_simp; rfl)); intro gb854 hg w14 hbox hb; have n0_ := am (Kd.R_below (ua HO849.out) hb); have n1_ := am (Kd.R_below (ua HO852.out) hb); have n2_ := am (below_step (uc HB.out) hb); have n3_ := am (hbox); have n4_ := am ((by rw [hg]; exact (below_size (uc HB.out)) : w.heap.size ≤ gb854)); have n5_ := am ((by rw [hg]; exact (below_size (uc HB.out)) : w.heap.size ≤ gb854)); revert n0_ n1_ n2_ n3_ n4_ n5_; clear HO849 HO852 HB; intro HO849 HO852 HB BK854 GW854 GE854; clear hb hbox hg; obtain ⟨Ao15, co15, eo15⟩ := Kd.R_slice HO849.out; subst eo15; obtain ⟨hcz16_0, hcz16_1, hfz16_0, hfz16_1⟩ := cells2 BK854.out; obtain ⟨Ao17, co17, eo17⟩ := Kd.R_slice HO852.out; subst eo17) | ((with_reducible refine gate_store (t := 28) (p := 9) rfl ?_); refine store_event (t := 28) (p := 9) (v := ?vo_w18) (w1 := ((w14.setCell ⟨gb854, 0, none⟩ (.slice Ao15 t847.length co15)).setCell ⟨gb854, 1, none⟩ (.slice Ao17 t850.length co17))) ?hg ?ho ?hn ?hr ?_; (case ho => rfl); (case hg => rfl); (case hn => rfl); (case hr => first | (go_simp; done) | (go_simp; rfl)); intro w18 hw; have n0_ := st2 _ hw HO849 BK854 (fun _ h => h); have n1_ := st2 _ hw HO852 BK854 (fun _ h => h); have n2_ := bp2 #[.slice Ao15 t847.length co15, .slice Ao17 t850.length co17] hw BK854; have n3_ : Aside0 (Below w.heap.size w w18) := ⟨(by rw [hw]; exact (uc HB.out))⟩; revert n0_ n1_ n2_ n3_; clear hw HO849 HO852 BK854 HB; intro HO849 HO852 BK854 HB) | ((with_reducible refine gate_dst (N := 43) rfl ?_); (with_reducible refine gate_callee (f := 23) rfl ?_); refine gl (some 43) Try.func23 #[.slice A0 l0.length c0, .agg #[.slice none 0 0, .slice none 0 0], .string a1] ?_; (refine (curtilageref21_Open.calls kj5 _ _ l0 (fun k_ => some k_ = (.slice none 0 0 : Value).ownBlock) (.slice none 0 0) ([] : List Int) (fun k_ => some k_ = (.slice none 0 0 : Value).ownBlock) (.slice none 0 0) ([] : List Int) a1 t855 t858 t861 t864 w _ ?side1 ?side2 ?side3 ?side4 ?side5 ?side6 ?side7 A11.out).mono ?_); (case side1 => repeat (first | (with_reducible first | exact HB.out | apply below_alloc | apply pw_below_drewN | apply below_drew1 | refine below_set ?_ GE854.out) | exact HB.out)); (case side2 => exact Kd.C_kept_came k38_heap HR0.out (uc HB.out) (fun k_ hs_ => Or.elim hs_ (fun e_ => (fun e_ => by simp [Value.ownBlock] at e_) e_) (fun e_ => (fun e_ => by simp [Value.ownBlock] at e_) e_))); (case side3 => exact HC0.out); (case side4 => exact Kd.R_nil _ _ _ _ _); (case side5 => intro k_ e_ e2_; simp [Value.ownBlock] at e_ e2_); (case side6 => exact Kd.R_nil _ _ _ _ _); (case side7 => intro k_ e_ e2_; simp [Value.ownBlock] at e_ e2_); rintro e w19 ⟨v856, v859, v862, rfl, ho0, ho1, ho2, hb, hkp⟩; refine ⟨_, rfl, ?_⟩; have n0_ := am (Kd.R_mono (ok' := fun k_ => nw k_ Ao17 t850 co17 ∧ nv k_ v856 ∧ nv k_ v859 ∧ nv k_ v862) (Kd.R_keptB (HO849.out) hkp (fun k_ hk_ hs_ => Or.elim hs_ (fun e_ => (fun e_ => by simp [Value.ownBlock] at e_) e_) (fun e_ => (fun e_ => by simp [Value.ownBlock] at e_) e_))) (fun k_ hk_ => ⟨hk_.1, fun e_ => Or.elim (ho0.1 k_ e_.symm).1 (fun hs_ => hk_.2.1 hs_) (fun hn_ => Nat.not_le.2 hk_.2.2 hn_), fun e_ => Or.elim (ho1.1 k_ e_.symm).1 (fun hs_ => hk_.2.1 hs_) (fun hn_ => Nat.not_le.2 hk_.2.2 hn_), fun e_ => Or.elim (ho2.1 k_ e_.symm).1 (fun hs_ => hk_.2.1 hs_) (fun hn_ => Nat.not_le.2 hk_.2.2 hn_)⟩)); have n1_ := am (Kd.R_mono (ok' := fun k_ => nw k_ Ao15 t847 co15 ∧ nv k_ v856 ∧ nv k_ v859 ∧ nv k_ v862) (Kd.R_keptB (HO852.out) hkp (fun k_ hk_ hs_ => Or.elim hs_ (fun e_ => (fun e_ => by simp [Value.ownBlock] at e_) e_) (fun e_ => (fun e_ => by simp [Value.ownBlock] at e_) e_))) (fun k_ hk_ => ⟨hk_.1, fun e_ => Or.elim (ho0.1 k_ e_.symm).1 (fun hs_ => hk_.2.1 hs_) (fun hn_ => Nat.not_le.2 hk_.2.2 hn_), fun e_ => Or.elim (ho1.1 k_ e_.symm).1 (fun hs_ => hk_.2.1 hs_) (fun hn_ => Nat.not_le.2 hk_.2.2 hn_), fun e_ => Or.elim (ho2.1 k_ e_.symm).1 (fun hs_ => hk_.2.1 hs_) (fun hn_ => Nat.not_le.2 hk_.2.2 hn_)⟩)); have n2_ := am (blk_kept (ub BK854.out) hkp (fun hs_ => Or.elim hs_ (fun e_ => (fun e_ => by simp [Value.ownBlock] at e_) e_) (fun e_ => (fun e_ => by simp [Value.ownBlock] at e_) e_))); have n3_ := am (Kd.R_mono (ok' := fun k_ => nv k_ v859 ∧ nv k_ v862 ∧ nw k_ Ao15 t847 co15 ∧ nw k_ Ao17 t850 co17) ho0 (fun k_ hk_ => ⟨hk_.2.1, hk_.2.2, Or.elim hk_.1 (fun hs_ => Or.elim hs_ (fun hs_ => absurd hs_ (by simp [Value.ownBlock])) (fun hs_ => absurd hs_ (by simp [Value.ownBlock]))) (fun hn_ => (Kd.fresh' (Kd.R_lt (ua HO849.out)) k_ hn_)), Or.elim hk_.1 (fun hs_ => Or.elim hs_ (fun hs_ => absurd hs_ (by simp [Value.ownBlock])) (fun hs_ => absurd hs_ (by simp [Value.ownBlock]))) (fun hn_ => (Kd.fresh' (Kd.R_lt (ua HO852.out)) k_ hn_))⟩)); have n4_ := am (Kd.R_mono (ok' := fun k_ => nv k_ v856 ∧ nv k_ v862 ∧ nw k_ Ao15 t847 co15 ∧ nw k_ Ao17 t850 co17) ho1 (fun k_ hk_ => ⟨hk_.2.1, hk_.2.2, Or.elim hk_.1 (fun hs_ => Or.elim hs_ (fun hs_ => absurd hs_ (by simp [Value.ownBlock])) (fun hs_ => absurd hs_ (by simp [Value.ownBlock]))) (fun hn_ => (Kd.fresh' (Kd.R_lt (ua HO849.out)) k_ hn_)), Or.elim hk_.1 (fun hs_ => Or.elim hs_ (fun hs_ => absurd hs_ (by simp [Value.ownBlock])) (fun hs_ => absurd hs_ (by simp [Value.ownBlock]))) (fun hn_ => (Kd.fresh' (Kd.R_lt (ua HO852.out)) k_ hn_))⟩)); have n5_ := am (Kd.R_mono (ok' := fun k_ => nv k_ v856 ∧ nv k_ v859 ∧ nw k_ Ao15 t847 co15 ∧ nw k_ Ao17 t850 co17) ho2 (fun k_ hk_ => ⟨hk_.2.1, hk_.2.2, Or.elim hk_.1 (fun hs_ => Or.elim hs_ (fun hs_ => absurd hs_ (by simp [Value.ownBlock])) (fun hs_ => absurd hs_ (by simp [Value.ownBlock]))) (fun hn_ => (Kd.fresh' (Kd.R_lt (ua HO849.out)) k_ hn_)), Or.elim hk_.1 (fun hs_ => Or.elim hs_ (fun hs_ => absurd hs_ (by simp [Value.ownBlock])) (fun hs_ => absurd hs_ (by simp [Value.ownBlock]))) (fun hn_ => (Kd.fresh' (Kd.R_lt (ua HO852.out)) k_ hn_))⟩)); have n6_ := am (hb); revert n0_ n1_ n2_ n3_ n4_ n5_ n6_; clear HO849 HO852 BK854 HB; intro HO849 HO852 BK854 HO857 HO860 HO863 HB; (try clear hb); (try clear hkp); (try clear ho0); (try clear ho1); (try clear ho2)) | ((with_reducible refine gate_dst (N := 11) rfl ?_); (try (refine gate_guard (by rfl) ?_; dsimp only)); refine box_event ?hg (N := 11) ?hd (cs := #[.slice none 0 0, .slice none 0 0]) (t := 53) ?hr ?_; (case hd => rfl); (case hg => rfl); (case hr => first | (go_simp; done) | (go_simp; rfl)); intro gb865 hg w20 hbox hb; have n0_ := am (Kd.R_below (ua HO849.out) hb); have n1_ := am (Kd.R_below (ua HO852.out) hb); have n2_ := am (Kd.R_below (ua HO857.out) hb); have n3_ := am (Kd.R_below (ua HO860.out) hb); have n4_ := am (Kd.R_below (ua HO863.out) hb); have n5_ := am (blk_below (g := gb854) (o := .cells #[.slice Ao15 t847.length co15, .slice Ao17 t850.length co17] 28 (0, 0)) (ub BK854.out) hb); have n6_ := am (below_step (uc HB.out) hb); have n7_ := am (hbox); have n8_ := am ((by rw [hg]; exact (below_size (uc HB.out)) : w.heap.size ≤ gb865)); have n9_ := am ((by rw [hg]; exact (below_size (uc HB.out)) : w.heap.size ≤ gb865)); have n10_ := am ((by rw [hg]; exact Nat.ne_of_lt (blk_lt (g := gb854) (o := .cells #[.slice Ao15 t847.length co15, .slice Ao17 t850.length co17] 28 (0, 0)) (ub BK854.out)) : gb854 ≠ gb865)); have n11_ := am ((by rw [hg]; exact Nat.ne_of_gt (blk_lt (g := gb854) (o := .cells #[.slice Ao15 t847.length co15, .slice Ao17 t850.length co17] 28 (0, 0)) (ub BK854.out)) : gb865 ≠ gb854)); revert n0_ n1_ n2_ n3_ n4_ n5_ n6_ n7_ n8_ n9_ n10_ n11_; clear HO849 HO852 HO857 HO860 HO863 BK854 HB; intro HO849 HO852 HO857 HO860 HO863 BK854 HB BK865 GW865 GE865 NB854_865 NB865_854; clear hb hbox hg; obtain ⟨Ao21, co21, eo21⟩ := Kd.R_slice HO857.out; subst eo21; have hnb22 := NB865_854.out; have hnc22 := NB854_865.out; obtain ⟨hcz23_0, hcz23_1, hfz23_0, hfz23_1⟩ := cells2 BK865.out; obtain ⟨Ao24, co24, eo24⟩ := Kd.R_slice HO860.out; subst eo24) | ((with_reducible refine gate_store (t := 53) (p := 11) rfl ?_); refine store_event (t := 53) (p := 11) (v := ?vo_w25) (w1 := ((w20.setCell ⟨gb865, 0, none⟩ (.slice Ao21 t855.length co21)).setCell ⟨gb865, 1, none⟩ (.slice Ao24 t858.length co24))) ?hg ?ho ?hn ?hr ?_; (case ho => rfl); (case hg => rfl); (case hn => rfl); (case hr => first | (go_simp; done) | (go_simp; rfl)); intro w25 hw; have n0_ := st2 (fun k_ => nw k_ Ao17 t850 co17 ∧ nw k_ Ao21 t855 co21 ∧ nw k_ Ao24 t858 co24 ∧ nv k_ v862) hw HO849 BK865 (fun _ h => ⟨h.1, h.2.1, h.2.2.1, h.2.2.2⟩); have n1_ := st2 (fun k_ => nw k_ Ao15 t847 co15 ∧ nw k_ Ao21 t855 co21 ∧ nw k_ Ao24 t858 co24 ∧ nv k_ v862) hw HO852 BK865 (fun _ h => ⟨h.1, h.2.1, h.2.2.1, h.2.2.2⟩); have n2_ := st2 (fun k_ => nw k_ Ao15 t847 co15 ∧ nw k_ Ao17 t850 co17 ∧ nw k_ Ao24 t858 co24 ∧ nv k_ v862) hw HO857 BK865 (fun _ h => ⟨h.2.2.1, h.2.2.2, h.1, h.2.1⟩); have n3_ := st2 (fun k_ => nw k_ Ao15 t847 co15 ∧ nw k_ Ao17 t850 co17 ∧ nw k_ Ao21 t855 co21 ∧ nv k_ v862) hw HO860 BK865 (fun _ h => ⟨h.2.2.1, h.2.2.2, h.1, h.2.1⟩); have n4_ := st2 (fun k_ => nw k_ Ao15 t847 co15 ∧ nw k_ Ao17 t850 co17 ∧ nw k_ Ao21 t855 co21 ∧ nw k_ Ao24 t858 co24) hw HO863 BK865 (fun _ h => ⟨h.2.2.1, h.2.2.2, h.1, h.2.1⟩); have n5_ := bf2 hw NB854_865 BK854; have n6_ := bp2 #[.slice Ao21 t855.length co21, .slice Ao24 t858.length co24] hw BK865; have n7_ : Aside0 (Below w.heap.size w w25) := ⟨(by rw [hw]; exact (uc HB.out))⟩; revert n0_ n1_ n2_ n3_ n4_ n5_ n6_ n7_; clear hw HO849 HO852 HO857 HO860 HO863 BK854 BK865 HB; intro HO849 HO852 HO857 HO860 HO863 BK854 BK865 HB))
    (try simp only [Act.put, List.setIfInBounds_toArray, List.set_cons_zero, List.set_cons_succ])
    go_cut [55] (fun v55 wc => ∃ (kq : Nat) (x55_11 : Bool), v55 = .bool x55_11 ∧ Aside0 (curtilagelaw21_DlPlays.j1 kq l0 l2 t845 t853 x55_11 t847 t850 t855 t858 = some r) ∧ Aside0 (kq ≤ kj5) ∧ Aside0 (Kd.R (Kd.int .i64) 3 wc w.heap.size (fun k_ => some k_ ≠ ((.slice Ao17 t850.length co17) : Value).ownBlock ∧ some k_ ≠ ((.slice Ao21 t855.length co21) : Value).ownBlock ∧ some k_ ≠ ((.slice Ao24 t858.length co24) : Value).ownBlock) (.slice Ao15 t847.length co15) t847) ∧ Aside0 (Kd.R (Kd.int .i64) 3 wc w.heap.size (fun k_ => some k_ ≠ ((.slice Ao15 t847.length co15) : Value).ownBlock ∧ some k_ ≠ ((.slice Ao21 t855.length co21) : Value).ownBlock ∧ some k_ ≠ ((.slice Ao24 t858.length co24) : Value).ownBlock) (.slice Ao17 t850.length co17) t850) ∧ Aside0 (Kd.R (Kd.int .i64) 3 wc w.heap.size (fun k_ => some k_ ≠ ((.slice Ao15 t847.length co15) : Value).ownBlock ∧ some k_ ≠ ((.slice Ao17 t850.length co17) : Value).ownBlock ∧ some k_ ≠ ((.slice Ao24 t858.length co24) : Value).ownBlock) (.slice Ao21 t855.length co21) t855) ∧ Aside0 (Kd.R (Kd.int .i64) 3 wc w.heap.size (fun k_ => some k_ ≠ ((.slice Ao15 t847.length co15) : Value).ownBlock ∧ some k_ ≠ ((.slice Ao17 t850.length co17) : Value).ownBlock ∧ some k_ ≠ ((.slice Ao21 t855.length co21) : Value).ownBlock) (.slice Ao24 t858.length co24) t858) ∧ Aside0 (wc.heap[gb854]? = some (.cells #[(.slice Ao15 t847.length co15), (.slice Ao17 t850.length co17)] 28 (0, 0))) ∧ Aside0 (wc.heap[gb865]? = some (.cells #[(.slice Ao21 t855.length co21), (.slice Ao24 t858.length co24)] 53 (0, 0))) ∧ Aside0 (Below w.heap.size w wc))
    case first =>
     have H := HC12.out
     clear HC12
     by_cases c26 : t853 = t864
     ·rw [if_pos c26] at H
      have c26b0 : (t853 == t864) = true := beq_iff_eq.mpr c26
      have c26b1 : (t853 != t864) = false := bne_eq_false_iff_eq.mpr c26
      clear c26
      (first | rw [c26b0] | (simp only [i64_w, i32_w]; rw [c26b0]) | skip)
      replace H := Option.bind_eq_some_iff.mp H
      obtain ⟨t866, A270, H⟩ := H
      replace H : (curtilagelaw21_DlPlays.j1 kj5 l0 l2 t845 t853 (!t866) t847 t850 t855 t858) = some r := H
      have A27 := am A270
      clear A270
      have H' := am H
      clear H
      have hnb28 := NB854_865.out
      have hnc28 := NB865_854.out
      have hcz29_0 : w25.cell? ⟨gb854, 0, none⟩ = some (.slice Ao15 t847.length co15) := (blk_cell BK854.out 0).trans rfl
      have hcz29_1 : w25.cell? ⟨gb854, 1, none⟩ = some (.slice Ao17 t850.length co17) := (blk_cell BK854.out 1).trans rfl
      have hfz29_0 := blk_frozen BK854.out 0
      have hfz29_1 := blk_frozen BK854.out 1
      have hcz30_0 : w25.cell? ⟨gb865, 0, none⟩ = some (.slice Ao21 t855.length co21) := (blk_cell BK865.out 0).trans rfl
      have hcz30_1 : w25.cell? ⟨gb865, 1, none⟩ = some (.slice Ao24 t858.length co24) := (blk_cell BK865.out 1).trans rfl
      have hfz30_0 := blk_frozen BK865.out 0
      have hfz30_1 := blk_frozen BK865.out 1
      go_wp2_with (first | (go_at_call 24; (with_reducible refine (curtilagelaw21_same.calls kj5 _ _ t847 _ _ t850 _ _ t855 _ _ t858 t866 _ ?side1 ?side2 ?side3 ?side4 ?side5 ?side6 ?side7 ?side8 A27.out).mono ?_); (case side1 => exact us (Kd.R_reads' HO849.out).2.2); (case side2 => exact (Kd.R_reads' HO849.out).2.1); (case side3 => exact us (Kd.R_reads' HO852.out).2.2); (case side4 => exact (Kd.R_reads' HO852.out).2.1); (case side5 => exact us (Kd.R_reads' HO857.out).2.2); (case side6 => exact (Kd.R_reads' HO857.out).2.1); (case side7 => exact us (Kd.R_reads' HO860.out).2.2); (case side8 => exact (Kd.R_reads' HO860.out).2.1); rintro e w31 ⟨rfl, hb⟩; have n0_ := am (Kd.R_below (ua HO849.out) hb); have n1_ := am (Kd.R_below (ua HO852.out) hb); have n2_ := am (Kd.R_below (ua HO857.out) hb); have n3_ := am (Kd.R_below (ua HO860.out) hb); have n4_ := am (Kd.R_below (ua HO863.out) hb); have n5_ := am (blk_below (g := gb854) (o := .cells #[.slice Ao15 t847.length co15, .slice Ao17 t850.length co17] 28 (0, 0)) (ub BK854.out) hb); have n6_ := am (blk_below (g := gb865) (o := .cells #[.slice Ao21 t855.length co21, .slice Ao24 t858.length co24] 53 (0, 0)) (ub BK865.out) hb); have n7_ := am (below_step (uc HB.out) hb); revert n0_ n1_ n2_ n3_ n4_ n5_ n6_ n7_; clear HO849 HO852 HO857 HO860 HO863 BK854 BK865 HB; intro HO849 HO852 HO857 HO860 HO863 BK854 BK865 HB; (try clear hb); (try clear hb2); (try clear hk); (try clear hi)))
      go_meet
      case rel => exact ⟨_, (!t866), uf, H', ⟨by have := HJ5.out; first | omega | exact Nat.le_refl _⟩, ⟨by (with_reducible repeat (first | apply Kd.R_alloc | apply Kd.R_drewN | apply Kd.R_drew)); exact Kd.R_mono HO849.out (fun _ hk => ⟨hk.1, ⟨hk.2.1, hk.2.2.1⟩⟩)⟩, ⟨by (with_reducible repeat (first | apply Kd.R_alloc | apply Kd.R_drewN | apply Kd.R_drew)); exact Kd.R_mono HO852.out (fun _ hk => ⟨hk.1, ⟨hk.2.1, hk.2.2.1⟩⟩)⟩, ⟨by (with_reducible repeat (first | apply Kd.R_alloc | apply Kd.R_drewN | apply Kd.R_drew)); exact Kd.R_mono HO857.out (fun _ hk => ⟨hk.1, ⟨hk.2.1, hk.2.2.1⟩⟩)⟩, ⟨by (with_reducible repeat (first | apply Kd.R_alloc | apply Kd.R_drewN | apply Kd.R_drew)); exact Kd.R_mono HO860.out (fun _ hk => ⟨hk.1, ⟨hk.2.1, hk.2.2.1⟩⟩)⟩, ⟨ub BK854.out⟩, ⟨ub BK865.out⟩, ⟨uc HB.out⟩⟩
     ·rw [if_neg c26] at H
      have c26b0 : (t853 == t864) = false := beq_eq_false_iff_ne.mpr c26
      have c26b1 : (t853 != t864) = true := bne_iff_ne.mpr c26
      (first | rw [c26b0] | (simp only [i64_w, i32_w]; rw [c26b0]) | skip)
      have H' := am H
      clear H
      go_wp2
      go_meet
      case rel => exact ⟨_, (true), uf, H', ⟨by have := HJ5.out; first | omega | exact Nat.le_refl _⟩, ⟨by (with_reducible repeat (first | apply Kd.R_alloc | apply Kd.R_drewN | apply Kd.R_drew)); exact Kd.R_mono HO849.out (fun _ hk => ⟨hk.1, ⟨hk.2.1, hk.2.2.1⟩⟩)⟩, ⟨by (with_reducible repeat (first | apply Kd.R_alloc | apply Kd.R_drewN | apply Kd.R_drew)); exact Kd.R_mono HO852.out (fun _ hk => ⟨hk.1, ⟨hk.2.1, hk.2.2.1⟩⟩)⟩, ⟨by (with_reducible repeat (first | apply Kd.R_alloc | apply Kd.R_drewN | apply Kd.R_drew)); exact Kd.R_mono HO857.out (fun _ hk => ⟨hk.1, ⟨hk.2.1, hk.2.2.1⟩⟩)⟩, ⟨by (with_reducible repeat (first | apply Kd.R_alloc | apply Kd.R_drewN | apply Kd.R_drew)); exact Kd.R_mono HO860.out (fun _ hk => ⟨hk.1, ⟨hk.2.1, hk.2.2.1⟩⟩)⟩, ⟨ub BK854.out⟩, ⟨ub BK865.out⟩, ⟨uc HB.out⟩⟩
    case rest =>
     clear HC12
     try clear c1
     try clear c2
     try clear p2
     try clear c8
     try clear c9
     try clear c10
     try clear c20
     try clear c22
     try clear c23
     try clear c26
     try clear c26b0
     try clear c26b1
     try clear c28
     try clear hcz16_0
     try clear hcz16_1
     try clear hcz23_0
     try clear hcz23_1
     try clear hcz29_0
     try clear hcz29_1
     try clear hcz30_0
     try clear hcz30_1
     try clear hfz16_0
     try clear hfz16_1
     try clear hfz23_0
     try clear hfz23_1
     try clear hfz29_0
     try clear hfz29_1
     try clear hfz30_0
     try clear hfz30_1
     try clear p2
     obtain ⟨kq, x55_11, rfl, HA, HJ11, HO_855000, HO_855001, HO_866000, HO_866001, BK854, BK865, HB⟩ := hcut
     cases kq with
     | zero => exact absurd HA.out (by simp [curtilagelaw21_DlPlays.j1])
     | succ kj11 =>
      have H := HA.out
      clear HA
      simp only [curtilagelaw21_DlPlays.j1] at H
      by_cases c32 : x55_11 = true
      ·subst c32
       have H1 : (some false) = some r := by rw [if_pos rfl] at H; exact H
       clear H
       have H := H1
       clear H1
       exact absurd ((Option.some.inj H).trans HT.out) (by decide)
      ·replace c32 := Bool.eq_false_iff.mpr c32
       subst c32
       have H1 : (if t853 = 0 then (curtilagelaw21_DlPlays.l0 kj11 l0 l2 t845 0 t847 t850 t855 t858) else (some t845)) = some r := by rw [if_neg (show ¬ (false = true) by decide)] at H; exact H
       clear H
       have H := H1
       clear H1
       by_cases c33 : t853 = 0
       ·rw [if_pos c33] at H
        have c33b0 : (t853 == 0) = true := beq_iff_eq.mpr c33
        have c33b1 : (t853 != 0) = false := bne_eq_false_iff_eq.mpr c33
        clear c33
        have H' := am H
        clear H
        go_wp2
        go_loopg [14] kj11 (fun kq v14 w' => ∃ (x14_3 : Int) (x855000_3 : List Int) (x855001_3 : List Int) (x866000_3 : List Int) (x866001_3 : List Int) (u855000 : Value) (u855001 : Value) (u866000 : Value) (u866001 : Value), v14 = .int .i64 x14_3 ∧ Aside0 (curtilagelaw21_DlPlays.l0 kq l0 l2 t845 x14_3 x855000_3 x855001_3 x866000_3 x866001_3 = some r) ∧ Aside0 (kq ≤ kj11) ∧ Aside0 (Kd.R (Kd.int .i64) 3 w' w.heap.size (fun k_ => nv k_ u855001 ∧ nv k_ u866000 ∧ nv k_ u866001) u855000 x855000_3) ∧ Aside0 (Kd.R (Kd.int .i64) 3 w' w.heap.size (fun k_ => nv k_ u855000 ∧ nv k_ u866000 ∧ nv k_ u866001) u855001 x855001_3) ∧ Aside0 (Kd.R (Kd.int .i64) 3 w' w.heap.size (fun k_ => nv k_ u855000 ∧ nv k_ u855001 ∧ nv k_ u866001) u866000 x866000_3) ∧ Aside0 (Kd.R (Kd.int .i64) 3 w' w.heap.size (fun k_ => nv k_ u855000 ∧ nv k_ u855001 ∧ nv k_ u866000) u866001 x866001_3) ∧ Aside0 (w'.heap[gb854]? = some (.cells #[u855000, u855001] 28 (0, 0))) ∧ Aside0 (w'.heap[gb865]? = some (.cells #[u866000, u866001] 53 (0, 0))) ∧ Aside0 (Below w.heap.size w w'))
        case atStart => exact ⟨(0), (t847), (t850), (t855), (t858), (.slice Ao15 t847.length co15), (.slice Ao17 t850.length co17), (.slice Ao21 t855.length co21), (.slice Ao24 t858.length co24), uf, H', ⟨Nat.le_refl _⟩, ⟨ua HO_855000.out⟩, ⟨ua HO_855001.out⟩, ⟨ua HO_866000.out⟩, ⟨ua HO_866001.out⟩, ⟨ub BK854.out⟩, ⟨ub BK865.out⟩, ⟨uc HB.out⟩⟩
        case round =>
         clear H'
         try clear c1
         try clear c2
         try clear p2
         try clear c3
         try clear c8
         try clear c9
         try clear c10
         try clear c20
         try clear c22
         try clear c23
         try clear c26
         try clear c26b0
         try clear c26b1
         try clear c28
         try clear c32
         try clear c33
         try clear c33b0
         try clear c33b1
         try clear hcz16_0
         try clear hcz16_1
         try clear hcz23_0
         try clear hcz23_1
         try clear hcz29_0
         try clear hcz29_1
         try clear hcz30_0
         try clear hcz30_1
         try clear hfz16_0
         try clear hfz16_1
         try clear hfz23_0
         try clear hfz23_1
         try clear hfz29_0
         try clear hfz29_1
         try clear hfz30_0
         try clear hfz30_1
         try clear p2
         obtain ⟨x14_3, x855000_3, x855001_3, x866000_3, x866001_3, u855000, u855001, u866000, u866001, rfl, HA, HK3, HO_855000, HO_855001, HO_866000, HO_866001, BK854, BK865, HB⟩ := hrel
         cases gk with
         | zero => exact absurd HA.out (by simp [curtilagelaw21_DlPlays.l0])
         | succ k3 =>
          have H := HA.out
          clear HA
          simp only [curtilagelaw21_DlPlays.l0] at H
          by_cases c34 : x14_3 < (l2.length : Int)
          ·rw [if_pos c34] at H
           have c34b0 : decide (x14_3 < (l2.length : Int)) = true := decide_eq_true c34
           clear c34
           by_cases c35 : 0 ≤ x14_3
           ·rw [if_pos c35] at H
            have c35b0 : decide (0 ≤ x14_3) = true := decide_eq_true c35
            clear c35
            have HC36 := am H
            clear H
            have p867 : 0 ≤ (x14_3 : Int) := ud
            have q867 : x14_3 < (l2.length : Int) := ud
            obtain ⟨ad867, e867, hx867_0, hx867_1⟩ := at_T58 HR2.out x14_3 p867 q867
            cases e867
            replace hx867_0 := bcel HB hx867_0
            replace hx867_1 := bcel HB hx867_1
            replace p867 := eq_true p867
            replace q867 := eq_true q867
            go_upto_if 69 with (fail)
            go_cut [10, 13, 15, 16] (fun v10 v13 v15 v16 wc => ∃ (kq : Nat) (x10_35 : Int) (x13_35 : Int) (x15_35 : List Int) (x16_35 : List Int) (x855000_35 : List Int) (x855001_35 : List Int) (x866000_35 : List Int) (x866001_35 : List Int) (u855000 : Value) (u855001 : Value) (u866000 : Value) (u866001 : Value), v10 = .int .i64 x10_35 ∧ v13 = .int .i64 x13_35 ∧ Aside0 (curtilagelaw21_DlPlays.j3 kq l0 l2 t845 x10_35 x13_35 x14_3 x15_35 x16_35 x855000_35 x855001_35 x866000_35 x866001_35 = some r) ∧ Aside0 (kq ≤ k3) ∧ Aside0 (Kd.R (Kd.int .i64) 3 wc w.heap.size (fun k_ => nv k_ v16 ∧ nv k_ u855000 ∧ nv k_ u855001 ∧ nv k_ u866000 ∧ nv k_ u866001) v15 x15_35) ∧ Aside0 (Kd.R (Kd.int .i64) 3 wc w.heap.size (fun k_ => nv k_ v15 ∧ nv k_ u855000 ∧ nv k_ u855001 ∧ nv k_ u866000 ∧ nv k_ u866001) v16 x16_35) ∧ Aside0 (Kd.R (Kd.int .i64) 3 wc w.heap.size (fun k_ => nv k_ v15 ∧ nv k_ v16 ∧ nv k_ u855001 ∧ nv k_ u866000 ∧ nv k_ u866001) u855000 x855000_35) ∧ Aside0 (Kd.R (Kd.int .i64) 3 wc w.heap.size (fun k_ => nv k_ v15 ∧ nv k_ v16 ∧ nv k_ u855000 ∧ nv k_ u866000 ∧ nv k_ u866001) u855001 x855001_35) ∧ Aside0 (Kd.R (Kd.int .i64) 3 wc w.heap.size (fun k_ => nv k_ v15 ∧ nv k_ v16 ∧ nv k_ u855000 ∧ nv k_ u855001 ∧ nv k_ u866001) u866000 x866000_35) ∧ Aside0 (Kd.R (Kd.int .i64) 3 wc w.heap.size (fun k_ => nv k_ v15 ∧ nv k_ v16 ∧ nv k_ u855000 ∧ nv k_ u855001 ∧ nv k_ u866000) u866001 x866001_35) ∧ Aside0 (wc.heap[gb854]? = some (.cells #[u855000, u855001] 28 (0, 0))) ∧ Aside0 (wc.heap[gb865]? = some (.cells #[u866000, u866001] 53 (0, 0))) ∧ Aside0 (Below w.heap.size w wc))
            case first =>
             have H := HC36.out
             clear HC36
             obtain ⟨bq37, hbq37⟩ : ∃ b_ : Bool, b_ = ((rd_T58 l2 x14_3).f0) := ⟨_, rfl⟩
             replace H : (if bq37 = true then ((dl_Open.f k3 l0 x855000_3 x855001_3 ((rd_T58 l2 x14_3).f1)).bind fun bt869 => ((curtilageref21_Open.f k3 l0 x866000_3 x866001_3 ((rd_T58 l2 x14_3).f1)).bind fun bt880 => (curtilagelaw21_DlPlays.j3 k3 l0 l2 t845 bt869.2.2.2 bt880.2.2.2 x14_3 bt869.2.2.1 bt880.2.2.1 bt869.1 bt869.2.1 bt880.1 bt880.2.1))) else ((dl_Close.f k3 l0 x855000_3 x855001_3 ((rd_T58 l2 x14_3).f1)).bind fun bt891 => ((curtilageref21_Close.f k3 l0 x866000_3 x866001_3 ((rd_T58 l2 x14_3).f1)).bind fun bt902 => (curtilagelaw21_DlPlays.j3 k3 l0 l2 t845 bt891.2.2.2 bt902.2.2.2 x14_3 bt891.2.2.1 bt902.2.2.1 bt891.1 bt891.2.1 bt902.1 bt902.2.1)))) = some r := by rw [← hbq37] at H; exact H
             have Nbq37 := am hbq37
             clear hbq37
             (try rw [← Nbq37.out])
             (try (have h_ := BK854.out; rw [← Nbq37.out] at h_; clear BK854; have BK854 := am h_; clear h_))
             (try (have h_ := BK865.out; rw [← Nbq37.out] at h_; clear BK865; have BK865 := am h_; clear h_))
             by_cases c38 : bq37 = true
             ·subst c38
              have H1 : ((dl_Open.f k3 l0 x855000_3 x855001_3 ((rd_T58 l2 x14_3).f1)).bind fun bt869 => ((curtilageref21_Open.f k3 l0 x866000_3 x866001_3 ((rd_T58 l2 x14_3).f1)).bind fun bt880 => (curtilagelaw21_DlPlays.j3 k3 l0 l2 t845 bt869.2.2.2 bt880.2.2.2 x14_3 bt869.2.2.1 bt880.2.2.1 bt869.1 bt869.2.1 bt880.1 bt880.2.1))) = some r := by rw [if_pos rfl] at H; exact H
              clear H
              have H := H1
              clear H1
              replace H := Option.bind_eq_some_iff.mp H
              obtain ⟨⟨t869, t872, t875, t878⟩, A390, H⟩ := H
              replace H : ((curtilageref21_Open.f k3 l0 x866000_3 x866001_3 ((rd_T58 l2 x14_3).f1)).bind fun bt880 => (curtilagelaw21_DlPlays.j3 k3 l0 l2 t845 t878 bt880.2.2.2 x14_3 t875 bt880.2.2.1 t869 t872 bt880.1 bt880.2.1)) = some r := H
              have A39 := am A390
              clear A390
              replace H := Option.bind_eq_some_iff.mp H
              obtain ⟨⟨t880, t883, t886, t889⟩, A400, H⟩ := H
              replace H : (curtilagelaw21_DlPlays.j3 k3 l0 l2 t845 t878 t889 x14_3 t875 t886 t869 t872 t880 t883) = some r := H
              have A40 := am A400
              clear A400
              have H' := am H
              clear H
              try go_wp2
              have n0_ := am (Kd.R_drew HO_855000.out)
              have n1_ := am (Kd.R_drew HO_855001.out)
              have n2_ := am (Kd.R_drew HO_866000.out)
              have n3_ := am (Kd.R_drew HO_866001.out)
              have n4_ := am (blk_drew BK854.out)
              have n5_ := am (blk_drew BK865.out)
              have n6_ := am (below_drew1 HB.out)
              revert n0_ n1_ n2_ n3_ n4_ n5_ n6_
              clear HO_855000 HO_855001 HO_866000 HO_866001 BK854 BK865 HB
              intro HO_855000 HO_855001 HO_866000 HO_866001 BK854 BK865 HB
              have p868 : 0 ≤ (x14_3 : Int) := ud
              have q868 : x14_3 < (l2.length : Int) := ud
              obtain ⟨ad868, e868, hx868_0, hx868_1⟩ := at_T58 HR2.out x14_3 p868 q868
              have hw868_1 := hx868_1
              have hw868_0 := hx868_0
              (try rw [← Nbq37.out] at hx868_0)
              (try rw [← Nbq37.out] at hw868_0)
              obtain rfl : ad867 = ad868 := (by injection e868)
              replace hx868_0 := bcel HB hx868_0
              replace hx868_1 := bcel HB hx868_1
              replace p868 := eq_true p868
              replace q868 := eq_true q868
              obtain ⟨Ao42, co42, eo42⟩ := Kd.R_slice HO_855000.out
              (first | subst eo42 | (injection eo42 with f1_ f2_ f3_; have f4_ := f1_.symm; have f5_ := f3_.symm; clear f1_ f2_ f3_; subst f4_; subst f5_))
              obtain ⟨Ao43, co43, eo43⟩ := Kd.R_slice HO_855001.out
              (first | subst eo43 | (injection eo43 with f1_ f2_ f3_; have f4_ := f1_.symm; have f5_ := f3_.symm; clear f1_ f2_ f3_; subst f4_; subst f5_))
              refine start_ (n := 15) (S := fun w' => w'.cell? ⟨gb854, 0, none⟩ = some (.slice Ao42 x855000_3.length co42) ∧ w'.cell? ⟨gb854, 1, none⟩ = some (.slice Ao43 x855001_3.length co43) ∧ w'.cell? (ad867.add ((x14_3).toNat * 2)) = some (.bool (true)) ∧ w'.cell? ⟨(ad867.add ((x14_3).toNat * 2)).block, (ad867.add ((x14_3).toNat * 2)).off + 1, none⟩ = some (.string ((rd_T58 l2 x14_3).f1))) (ds := [12]) #[false, false, false, false, false, false, false, false, false, false, false, false, false, false, false] (by kernel_rfl) rfl rfl ⟨(blk_cell BK854.out 0).trans rfl, (blk_cell BK854.out 1).trans rfl, (bcel HB hw868_0), (bcel HB hw868_1)⟩ (fun hHeld => ?_); refine with_tabW curtilagelaw21_DlPlays.tab17 curtilagelaw21_DlPlays.bits17 (fun HT_ HW_ => ?_)
              generalize wr.drew = w41 at HO_855000 HO_855001 HO_866000 HO_866001 BK854 BK865 HB hx868_0 hx868_1 hHeld ⊢
              refine pv 0 71 (bA 15 1) HT_ ?_
              refine pv 2 73 (bA 15 5) HT_ ?_
              refine pv 3 74 (bA 15 13) HT_ ?_
              refine pv 4 75 (bA 15 29) HT_ ?_
              refine pv 5 76 (bA 15 61) HT_ ?_
              refine tv 1 72 (bA 15 63) HT_ HW_ hHeld ?_ (hy := by rintro w' ⟨s0, s1, s2, s3⟩; go_simp; with_reducible rfl)
              refine tv 6 77 (bA 15 127) HT_ HW_ hHeld ?_ (hy := by rintro w' ⟨s0, s1, s2, s3⟩; go_simp; with_reducible rfl)
              refine one_ (i := 7) (N := some 78) #[true, true, true, true, true, true, true, true, false, false, false, false, false, false, false] rfl rfl (one_of HT_.out (by kernel_rfl)) (by decide) (fun K hK => ?_)
              refine goes_ Try.func15 (by kernel_rfl) rfl #[.slice A0 l0.length c0, .agg #[.slice Ao42 x855000_3.length co42, .slice Ao43 x855001_3.length co43], .string ((rd_T58 l2 x14_3).f1)] (by rfl) rfl rfl (by (try simp only [List.map_toArray, List.map_cons, List.map_nil]); first | done | rfl | (simp only [List.length_drop, List.length_take]; rfl)) ?_
              with_reducible refine (dl_Open.calls k3 _ _ l0 _ _ x855000_3 _ _ x855001_3 ((rd_T58 l2 x14_3).f1) t869 t872 t875 t878 _ ?side1 ?side2 ?side3 ?side4 ?side5 ?side6 A39.out).mono ?_
              (case side1 => exact us (Kd.C_below HR0.out HB.out))
              (case side2 => exact HC0.out)
              (case side3 => exact us (Kd.R_reads' HO_855000.out).2.2)
              (case side4 => exact (Kd.R_reads' HO_855000.out).2.1)
              (case side5 => exact us (Kd.R_reads' HO_855001.out).2.2)
              (case side6 => exact (Kd.R_reads' HO_855001.out).2.1)
              rintro e w44 ⟨v870, v873, v876, rfl, ho0, ho1, ho2, hb⟩
              refine ⟨_, rfl, ?_⟩
              have n0_ := am (Kd.R_mono (Kd.R_told (Kd.R_told (Kd.R_told (Kd.R_old (ua HO_855000.out) hb) (Kd.R_base ho0)) (Kd.R_base ho1)) (Kd.R_base ho2)) (fun _ h_ => h_.1))
              have n1_ := am (Kd.R_mono (Kd.R_told (Kd.R_told (Kd.R_told (Kd.R_old (ua HO_855001.out) hb) (Kd.R_base ho0)) (Kd.R_base ho1)) (Kd.R_base ho2)) (fun _ h_ => h_.1))
              have n2_ := am (Kd.R_mono (Kd.R_told (Kd.R_told (Kd.R_told (Kd.R_old (ua HO_866000.out) hb) (Kd.R_base ho0)) (Kd.R_base ho1)) (Kd.R_base ho2)) (fun _ h_ => h_.1))
              have n3_ := am (Kd.R_mono (Kd.R_told (Kd.R_told (Kd.R_told (Kd.R_old (ua HO_866001.out) hb) (Kd.R_base ho0)) (Kd.R_base ho1)) (Kd.R_base ho2)) (fun _ h_ => h_.1))
              have n4_ := am (Kd.R_lower (Kd.R_new' (Kd.R_new' (Kd.R_new' (Kd.R_new' ho0 (Kd.R_lt (ua HO_855000.out))) (Kd.R_lt (ua HO_855001.out))) (Kd.R_lt (ua HO_866000.out))) (Kd.R_lt (ua HO_866001.out))) (below_size (uc HB.out)))
              have n5_ := am (Kd.R_lower (Kd.R_new' (Kd.R_new' (Kd.R_new' (Kd.R_new' ho1 (Kd.R_lt (ua HO_855000.out))) (Kd.R_lt (ua HO_855001.out))) (Kd.R_lt (ua HO_866000.out))) (Kd.R_lt (ua HO_866001.out))) (below_size (uc HB.out)))
              have n6_ := am (Kd.R_lower (Kd.R_new' (Kd.R_new' (Kd.R_new' (Kd.R_new' ho2 (Kd.R_lt (ua HO_855000.out))) (Kd.R_lt (ua HO_855001.out))) (Kd.R_lt (ua HO_866000.out))) (Kd.R_lt (ua HO_866001.out))) (below_size (uc HB.out)))
              have n7_ := am (blk_below (g := gb854) (o := .cells #[.slice Ao42 x855000_3.length co42, .slice Ao43 x855001_3.length co43] 28 (0, 0)) (ub BK854.out) hb)
              have n8_ := am (blk_below (g := gb865) (o := .cells #[u866000, u866001] 53 (0, 0)) (ub BK865.out) hb)
              have n9_ := am (below_step (uc HB.out) hb)
              revert n0_ n1_ n2_ n3_ n4_ n5_ n6_ n7_ n8_ n9_
              clear HO_855000 HO_855001 HO_866000 HO_866001 BK854 BK865 HB
              intro HO_855000 HO_855001 HO_866000 HO_866001 HO871 HO874 HO877 BK854 BK865 HB
              (try clear hb)
              (try clear hb2)
              (try clear hk)
              (try clear hi)
              (try clear ho0)
              (try clear ho1)
              (try clear ho2)
              obtain ⟨Ao45, co45, eo45⟩ := Kd.R_slice HO871.out
              (first | subst eo45 | (injection eo45 with f1_ f2_ f3_; have f4_ := f1_.symm; have f5_ := f3_.symm; clear f1_ f2_ f3_; subst f4_; subst f5_))
              obtain ⟨Ao47, co47, eo47⟩ := Kd.R_slice HO874.out
              (first | subst eo47 | (injection eo47 with f1_ f2_ f3_; have f4_ := f1_.symm; have f5_ := f3_.symm; clear f1_ f2_ f3_; subst f4_; subst f5_))
              refine hK.out _ _ ⟨(blk_cell BK854.out 0).trans rfl, (blk_cell BK854.out 1).trans rfl, (bcel HB hw868_0), (bcel HB hw868_1)⟩ (fun hHeld => ?_)
              clear hK K
              refine norm_ (a' := ?_) ?_ ?_
              rotate_left
              ·show Act.put _ (some 78) _ = _
               simp only [Act.put, List.setIfInBounds_toArray, List.set_cons_zero, List.set_cons_succ, i64_w, i32_w]
               rfl
              refine pv 8 70 (bA 15 511) HT_ ?_
              refine pv 9 79 (bA 15 1023) HT_ ?_
              refine pv 10 80 (bA 15 2047) HT_ ?_
              refine pv 11 81 (bA 15 4095) HT_ ?_
              refine last_ (i := 12) (N := none) #[true, true, true, true, true, true, true, true, true, true, true, true, true, false, false] rfl rfl (one_of HT_.out (by kernel_rfl)) (by decide) (fun K hK => ?_)
              have hs46 : w44.cell? ⟨gb854, 0, none⟩ = some (.slice Ao42 x855000_3.length co42) := (blk_cell BK854.out 0).trans rfl
              have hfs46 := blk_frozen BK854.out 0
              have hns46_1 := NB865_854.out
              have hms46_1 := NB854_865.out
              have hs48 : w44.cell? ⟨gb854, 1, none⟩ = some (.slice Ao43 x855001_3.length co43) := (blk_cell BK854.out 1).trans rfl
              have hfs48 := blk_frozen BK854.out 1
              have hns48_1 := NB865_854.out
              have hms48_1 := NB854_865.out
              refine skip_ (w1 := ?_) (by rfl) rfl ?_ ?_
              rotate_left
              ·go_simp
               rfl
              refine hK.out _ _ ?_
              clear hK K
              refine pv 13 15 (bA 15 16383) HT_ ?_
              refine pv 14 10 (bA 15 32767) HT_ ?_
              refine done_ (done_of HT_.out (by kernel_rfl)) ?_
              try go_wp2
              have n0_ : Aside0 (Kd.R (Kd.int .i64) 3 ((w44.setCell ⟨gb854, 0, none⟩ (.slice Ao45 t869.length co45)).setCell ⟨gb854, 1, none⟩ (.slice Ao47 t872.length co47)) w.heap.size (fun k_ => nw k_ Ao43 x855001_3 co43 ∧ nv k_ u866000 ∧ nv k_ u866001 ∧ nw k_ Ao45 t869 co45 ∧ nw k_ Ao47 t872 co47 ∧ nv k_ v876) (.slice Ao42 x855000_3.length co42) x855000_3) := ⟨by (with_reducible repeat (first | apply Kd.R_alloc | apply Kd.R_drewN | apply Kd.R_drew)); exact Kd.R_mono (Kd.R_far (p := ⟨gb854, 1, none⟩) (Kd.R_far (p := ⟨gb854, 0, none⟩) (Kd.R_types HO_855000.out BK854.out (by decide)) (fun _ hk => hk.2) (.slice Ao45 t869.length co45)) (fun _ hk => hk.2) (.slice Ao47 t872.length co47)) (fun _ hk => ⟨hk.1.1.1.1.1, ⟨hk.1.1.1.1.2.1, ⟨hk.1.1.1.1.2.2, ⟨hk.1.1.1.2, ⟨hk.1.1.2, hk.1.2⟩⟩⟩⟩⟩)⟩
              have n1_ : Aside0 (Kd.R (Kd.int .i64) 3 ((w44.setCell ⟨gb854, 0, none⟩ (.slice Ao45 t869.length co45)).setCell ⟨gb854, 1, none⟩ (.slice Ao47 t872.length co47)) w.heap.size (fun k_ => nw k_ Ao42 x855000_3 co42 ∧ nv k_ u866000 ∧ nv k_ u866001 ∧ nw k_ Ao45 t869 co45 ∧ nw k_ Ao47 t872 co47 ∧ nv k_ v876) (.slice Ao43 x855001_3.length co43) x855001_3) := ⟨by (with_reducible repeat (first | apply Kd.R_alloc | apply Kd.R_drewN | apply Kd.R_drew)); exact Kd.R_mono (Kd.R_far (p := ⟨gb854, 1, none⟩) (Kd.R_far (p := ⟨gb854, 0, none⟩) (Kd.R_types HO_855001.out BK854.out (by decide)) (fun _ hk => hk.2) (.slice Ao45 t869.length co45)) (fun _ hk => hk.2) (.slice Ao47 t872.length co47)) (fun _ hk => ⟨hk.1.1.1.1.1, ⟨hk.1.1.1.1.2.1, ⟨hk.1.1.1.1.2.2, ⟨hk.1.1.1.2, ⟨hk.1.1.2, hk.1.2⟩⟩⟩⟩⟩)⟩
              have n2_ : Aside0 (Kd.R (Kd.int .i64) 3 ((w44.setCell ⟨gb854, 0, none⟩ (.slice Ao45 t869.length co45)).setCell ⟨gb854, 1, none⟩ (.slice Ao47 t872.length co47)) w.heap.size (fun k_ => nw k_ Ao42 x855000_3 co42 ∧ nw k_ Ao43 x855001_3 co43 ∧ nv k_ u866001 ∧ nw k_ Ao45 t869 co45 ∧ nw k_ Ao47 t872 co47 ∧ nv k_ v876) u866000 x866000_3) := ⟨by (with_reducible repeat (first | apply Kd.R_alloc | apply Kd.R_drewN | apply Kd.R_drew)); exact Kd.R_mono (Kd.R_far (p := ⟨gb854, 1, none⟩) (Kd.R_far (p := ⟨gb854, 0, none⟩) (Kd.R_types HO_866000.out BK854.out (by decide)) (fun _ hk => hk.2) (.slice Ao45 t869.length co45)) (fun _ hk => hk.2) (.slice Ao47 t872.length co47)) (fun _ hk => ⟨hk.1.1.1.1.1, ⟨hk.1.1.1.1.2.1, ⟨hk.1.1.1.1.2.2, ⟨hk.1.1.1.2, ⟨hk.1.1.2, hk.1.2⟩⟩⟩⟩⟩)⟩
              have n3_ : Aside0 (Kd.R (Kd.int .i64) 3 ((w44.setCell ⟨gb854, 0, none⟩ (.slice Ao45 t869.length co45)).setCell ⟨gb854, 1, none⟩ (.slice Ao47 t872.length co47)) w.heap.size (fun k_ => nw k_ Ao42 x855000_3 co42 ∧ nw k_ Ao43 x855001_3 co43 ∧ nv k_ u866000 ∧ nw k_ Ao45 t869 co45 ∧ nw k_ Ao47 t872 co47 ∧ nv k_ v876) u866001 x866001_3) := ⟨by (with_reducible repeat (first | apply Kd.R_alloc | apply Kd.R_drewN | apply Kd.R_drew)); exact Kd.R_mono (Kd.R_far (p := ⟨gb854, 1, none⟩) (Kd.R_far (p := ⟨gb854, 0, none⟩) (Kd.R_types HO_866001.out BK854.out (by decide)) (fun _ hk => hk.2) (.slice Ao45 t869.length co45)) (fun _ hk => hk.2) (.slice Ao47 t872.length co47)) (fun _ hk => ⟨hk.1.1.1.1.1, ⟨hk.1.1.1.1.2.1, ⟨hk.1.1.1.1.2.2, ⟨hk.1.1.1.2, ⟨hk.1.1.2, hk.1.2⟩⟩⟩⟩⟩)⟩
              have n4_ : Aside0 (Kd.R (Kd.int .i64) 3 ((w44.setCell ⟨gb854, 0, none⟩ (.slice Ao45 t869.length co45)).setCell ⟨gb854, 1, none⟩ (.slice Ao47 t872.length co47)) w.heap.size (fun k_ => nw k_ Ao42 x855000_3 co42 ∧ nw k_ Ao43 x855001_3 co43 ∧ nv k_ u866000 ∧ nv k_ u866001 ∧ nw k_ Ao47 t872 co47 ∧ nv k_ v876) (.slice Ao45 t869.length co45) t869) := ⟨by (with_reducible repeat (first | apply Kd.R_alloc | apply Kd.R_drewN | apply Kd.R_drew)); exact Kd.R_mono (Kd.R_far (p := ⟨gb854, 1, none⟩) (Kd.R_far (p := ⟨gb854, 0, none⟩) (Kd.R_types HO871.out BK854.out (by decide)) (fun _ hk => hk.2) (.slice Ao45 t869.length co45)) (fun _ hk => hk.2) (.slice Ao47 t872.length co47)) (fun _ hk => ⟨hk.1.1.1.1.2, ⟨hk.1.1.1.2, ⟨hk.1.1.2, ⟨hk.1.2, ⟨hk.1.1.1.1.1.1, hk.1.1.1.1.1.2⟩⟩⟩⟩⟩)⟩
              have n5_ : Aside0 (Kd.R (Kd.int .i64) 3 ((w44.setCell ⟨gb854, 0, none⟩ (.slice Ao45 t869.length co45)).setCell ⟨gb854, 1, none⟩ (.slice Ao47 t872.length co47)) w.heap.size (fun k_ => nw k_ Ao42 x855000_3 co42 ∧ nw k_ Ao43 x855001_3 co43 ∧ nv k_ u866000 ∧ nv k_ u866001 ∧ nw k_ Ao45 t869 co45 ∧ nv k_ v876) (.slice Ao47 t872.length co47) t872) := ⟨by (with_reducible repeat (first | apply Kd.R_alloc | apply Kd.R_drewN | apply Kd.R_drew)); exact Kd.R_mono (Kd.R_far (p := ⟨gb854, 1, none⟩) (Kd.R_far (p := ⟨gb854, 0, none⟩) (Kd.R_types HO874.out BK854.out (by decide)) (fun _ hk => hk.2) (.slice Ao45 t869.length co45)) (fun _ hk => hk.2) (.slice Ao47 t872.length co47)) (fun _ hk => ⟨hk.1.1.1.1.2, ⟨hk.1.1.1.2, ⟨hk.1.1.2, ⟨hk.1.2, ⟨hk.1.1.1.1.1.1, hk.1.1.1.1.1.2⟩⟩⟩⟩⟩)⟩
              have n6_ : Aside0 (Kd.R (Kd.int .i64) 3 ((w44.setCell ⟨gb854, 0, none⟩ (.slice Ao45 t869.length co45)).setCell ⟨gb854, 1, none⟩ (.slice Ao47 t872.length co47)) w.heap.size (fun k_ => nw k_ Ao42 x855000_3 co42 ∧ nw k_ Ao43 x855001_3 co43 ∧ nv k_ u866000 ∧ nv k_ u866001 ∧ nw k_ Ao45 t869 co45 ∧ nw k_ Ao47 t872 co47) v876 t875) := ⟨by (with_reducible repeat (first | apply Kd.R_alloc | apply Kd.R_drewN | apply Kd.R_drew)); exact Kd.R_mono (Kd.R_far (p := ⟨gb854, 1, none⟩) (Kd.R_far (p := ⟨gb854, 0, none⟩) (Kd.R_types HO877.out BK854.out (by decide)) (fun _ hk => hk.2) (.slice Ao45 t869.length co45)) (fun _ hk => hk.2) (.slice Ao47 t872.length co47)) (fun _ hk => ⟨hk.1.1.1.1.2, ⟨hk.1.1.1.2, ⟨hk.1.1.2, ⟨hk.1.2, ⟨hk.1.1.1.1.1.1, hk.1.1.1.1.1.2⟩⟩⟩⟩⟩)⟩
              have n7_ : Aside0 (((w44.setCell ⟨gb854, 0, none⟩ (.slice Ao45 t869.length co45)).setCell ⟨gb854, 1, none⟩ (.slice Ao47 t872.length co47)).heap[gb854]? = some (.cells #[.slice Ao45 t869.length co45, .slice Ao47 t872.length co47] 28 (0, 0))) := ⟨by (with_reducible repeat (first | refine blk_drewN ?_ _ | refine blk_drew ?_ | refine blk_alloc ?_ _)); refine blk_put (cs := #[.slice Ao45 t869.length co45, .slice Ao43 x855001_3.length co43]) ?_ 1 _ rfl; (with_reducible repeat (first | refine blk_drewN ?_ _ | refine blk_drew ?_ | refine blk_alloc ?_ _)); refine blk_put (cs := #[.slice Ao42 x855000_3.length co42, .slice Ao43 x855001_3.length co43]) ?_ 0 _ rfl; (with_reducible repeat (first | refine blk_drewN ?_ _ | refine blk_drew ?_ | refine blk_alloc ?_ _)); exact BK854.out⟩
              have n8_ : Aside0 (((w44.setCell ⟨gb854, 0, none⟩ (.slice Ao45 t869.length co45)).setCell ⟨gb854, 1, none⟩ (.slice Ao47 t872.length co47)).heap[gb865]? = some (.cells #[u866000, u866001] 53 (0, 0))) := ⟨by (iterate 2 ((with_reducible repeat (first | refine blk_drewN ?_ _ | refine blk_drew ?_ | refine blk_alloc ?_ _)); refine blk_far ?_ NB865_854.out _)); (with_reducible repeat (first | refine blk_drewN ?_ _ | refine blk_drew ?_ | refine blk_alloc ?_ _)); exact BK865.out⟩
              have n9_ : Aside0 (Below w.heap.size w ((w44.setCell ⟨gb854, 0, none⟩ (.slice Ao45 t869.length co45)).setCell ⟨gb854, 1, none⟩ (.slice Ao47 t872.length co47))) := ⟨uc HB.out⟩
              (try clear HO_855000)
              (try clear HO_855001)
              (try clear HO_866000)
              (try clear HO_866001)
              (try clear HO871)
              (try clear HO874)
              (try clear HO877)
              (try clear BK854)
              (try clear BK865)
              (try clear HB)
              generalize ((w44.setCell ⟨gb854, 0, none⟩ (.slice Ao45 t869.length co45)).setCell ⟨gb854, 1, none⟩ (.slice Ao47 t872.length co47)) = w49 at n0_ n1_ n2_ n3_ n4_ n5_ n6_ n7_ n8_ n9_ ⊢
              revert n0_ n1_ n2_ n3_ n4_ n5_ n6_ n7_ n8_ n9_
              intro HO_855000 HO_855001 HO_866000 HO_866001 HO871 HO874 HO877 BK854 BK865 HB
              have n0_ := am (Kd.R_drew HO_855000.out)
              have n1_ := am (Kd.R_drew HO_855001.out)
              have n2_ := am (Kd.R_drew HO_866000.out)
              have n3_ := am (Kd.R_drew HO_866001.out)
              have n4_ := am (Kd.R_drew HO871.out)
              have n5_ := am (Kd.R_drew HO874.out)
              have n6_ := am (Kd.R_drew HO877.out)
              have n7_ := am (blk_drew BK854.out)
              have n8_ := am (blk_drew BK865.out)
              have n9_ := am (below_drew1 HB.out)
              revert n0_ n1_ n2_ n3_ n4_ n5_ n6_ n7_ n8_ n9_
              clear HO_855000 HO_855001 HO_866000 HO_866001 HO871 HO874 HO877 BK854 BK865 HB
              intro HO_855000 HO_855001 HO_866000 HO_866001 HO871 HO874 HO877 BK854 BK865 HB
              have p879 : 0 ≤ (x14_3 : Int) := ud
              have q879 : x14_3 < (l2.length : Int) := ud
              obtain ⟨ad879, e879, hx879_0, hx879_1⟩ := at_T58 HR2.out x14_3 p879 q879
              have hw879_1 := hx879_1
              have hw879_0 := hx879_0
              (try rw [← Nbq37.out] at hx879_0)
              (try rw [← Nbq37.out] at hw879_0)
              obtain rfl : ad867 = ad879 := (by injection e879)
              replace hx879_0 := bcel HB hx879_0
              replace hx879_1 := bcel HB hx879_1
              replace p879 := eq_true p879
              replace q879 := eq_true q879
              obtain ⟨Ao51, co51, eo51⟩ := Kd.R_slice HO_866000.out
              (first | subst eo51 | (injection eo51 with f1_ f2_ f3_; have f4_ := f1_.symm; have f5_ := f3_.symm; clear f1_ f2_ f3_; subst f4_; subst f5_))
              obtain ⟨Ao52, co52, eo52⟩ := Kd.R_slice HO_866001.out
              (first | subst eo52 | (injection eo52 with f1_ f2_ f3_; have f4_ := f1_.symm; have f5_ := f3_.symm; clear f1_ f2_ f3_; subst f4_; subst f5_))
              refine start_ (n := 15) (S := fun w' => w'.cell? ⟨gb865, 0, none⟩ = some (.slice Ao51 x866000_3.length co51) ∧ w'.cell? ⟨gb865, 1, none⟩ = some (.slice Ao52 x866001_3.length co52) ∧ w'.cell? (ad867.add ((x14_3).toNat * 2)) = some (.bool (true)) ∧ w'.cell? ⟨(ad867.add ((x14_3).toNat * 2)).block, (ad867.add ((x14_3).toNat * 2)).off + 1, none⟩ = some (.string ((rd_T58 l2 x14_3).f1))) (ds := [12]) #[false, false, false, false, false, false, false, false, false, false, false, false, false, false, false] (by kernel_rfl) rfl rfl ⟨(blk_cell BK865.out 0).trans rfl, (blk_cell BK865.out 1).trans rfl, (bcel HB hw879_0), (bcel HB hw879_1)⟩ (fun hHeld => ?_); refine with_tabW curtilagelaw21_DlPlays.tab18 curtilagelaw21_DlPlays.bits18 (fun HT_ HW_ => ?_)
              generalize w49.drew = w50 at HO_855000 HO_855001 HO_866000 HO_866001 HO871 HO874 HO877 BK854 BK865 HB hx879_0 hx879_1 hHeld ⊢
              refine pv 0 83 (bA 15 1) HT_ ?_
              refine pv 2 85 (bA 15 5) HT_ ?_
              refine pv 3 86 (bA 15 13) HT_ ?_
              refine pv 4 87 (bA 15 29) HT_ ?_
              refine pv 5 88 (bA 15 61) HT_ ?_
              refine tv 1 84 (bA 15 63) HT_ HW_ hHeld ?_ (hy := by rintro w' ⟨s0, s1, s2, s3⟩; go_simp; with_reducible rfl)
              refine tv 6 89 (bA 15 127) HT_ HW_ hHeld ?_ (hy := by rintro w' ⟨s0, s1, s2, s3⟩; go_simp; with_reducible rfl)
              refine one_ (i := 7) (N := some 90) #[true, true, true, true, true, true, true, true, false, false, false, false, false, false, false] rfl rfl (one_of HT_.out (by kernel_rfl)) (by decide) (fun K hK => ?_)
              refine goes_ Try.func23 (by kernel_rfl) rfl #[.slice A0 l0.length c0, .agg #[.slice Ao51 x866000_3.length co51, .slice Ao52 x866001_3.length co52], .string ((rd_T58 l2 x14_3).f1)] (by rfl) rfl rfl (by (try simp only [List.map_toArray, List.map_cons, List.map_nil]); first | done | rfl | (simp only [List.length_drop, List.length_take]; rfl)) ?_
              with_reducible refine (curtilageref21_Open.calls k3 _ _ l0 (fun k_ => some k_ = ow Ao51 x866000_3 co51) (.slice Ao51 x866000_3.length co51) x866000_3 (fun k_ => some k_ = ow Ao52 x866001_3 co52) (.slice Ao52 x866001_3.length co52) x866001_3 ((rd_T58 l2 x14_3).f1) t880 t883 t886 t889 w _ ?side1 ?side2 ?side3 ?side4 ?side5 ?side6 ?side7 A40.out).mono ?_
              (case side1 => repeat (first | (with_reducible first | exact HB.out | apply below_alloc | apply pw_below_drewN | apply below_drew1 | refine below_set ?_ GE854.out | refine below_set ?_ GE865.out) | exact HB.out))
              (case side2 => exact Kd.C_kept_came k38_heap HR0.out (uc HB.out) (fun k_ hs_ => Or.elim hs_ (fun e_ => (fun e_ => Kd.R_base HO_866000.out k_ e_.symm) e_) (fun e_ => (fun e_ => Kd.R_base HO_866001.out k_ e_.symm) e_)))
              (case side3 => exact HC0.out)
              (case side4 => exact Kd.R_tight rfl HO_866000.out)
              (case side5 => exact fun k_ e_ => (HO_866000.out.1 k_ e_.symm).2.2.1)
              (case side6 => exact Kd.R_tight rfl HO_866001.out)
              (case side7 => exact fun k_ e_ => (HO_866001.out.1 k_ e_.symm).2.2.1)
              rintro e w53 ⟨v881, v884, v887, rfl, ho0, ho1, ho2, hb, hkp⟩
              refine ⟨_, rfl, ?_⟩
              have n0_ := am (Kd.R_mono (ok' := fun k_ => nw k_ Ao43 x855001_3 co43 ∧ nw k_ Ao45 t869 co45 ∧ nw k_ Ao47 t872 co47 ∧ nv k_ v876 ∧ nv k_ v881 ∧ nv k_ v884 ∧ nv k_ v887) (Kd.R_keptB (HO_855000.out) hkp (fun k_ hk_ hs_ => Or.elim hs_ (fun e_ => (hk_.2.1) e_) (fun e_ => (hk_.2.2.1) e_))) (fun k_ hk_ => ⟨hk_.1.1, hk_.1.2.2.2.1, hk_.1.2.2.2.2.1, hk_.1.2.2.2.2.2, fun e_ => Or.elim (ho0.1 k_ e_.symm).1 (fun hs_ => hk_.2.1 hs_) (fun hn_ => Nat.not_le.2 hk_.2.2 hn_), fun e_ => Or.elim (ho1.1 k_ e_.symm).1 (fun hs_ => hk_.2.1 hs_) (fun hn_ => Nat.not_le.2 hk_.2.2 hn_), fun e_ => Or.elim (ho2.1 k_ e_.symm).1 (fun hs_ => hk_.2.1 hs_) (fun hn_ => Nat.not_le.2 hk_.2.2 hn_)⟩))
              have n1_ := am (Kd.R_mono (ok' := fun k_ => nw k_ Ao42 x855000_3 co42 ∧ nw k_ Ao45 t869 co45 ∧ nw k_ Ao47 t872 co47 ∧ nv k_ v876 ∧ nv k_ v881 ∧ nv k_ v884 ∧ nv k_ v887) (Kd.R_keptB (HO_855001.out) hkp (fun k_ hk_ hs_ => Or.elim hs_ (fun e_ => (hk_.2.1) e_) (fun e_ => (hk_.2.2.1) e_))) (fun k_ hk_ => ⟨hk_.1.1, hk_.1.2.2.2.1, hk_.1.2.2.2.2.1, hk_.1.2.2.2.2.2, fun e_ => Or.elim (ho0.1 k_ e_.symm).1 (fun hs_ => hk_.2.1 hs_) (fun hn_ => Nat.not_le.2 hk_.2.2 hn_), fun e_ => Or.elim (ho1.1 k_ e_.symm).1 (fun hs_ => hk_.2.1 hs_) (fun hn_ => Nat.not_le.2 hk_.2.2 hn_), fun e_ => Or.elim (ho2.1 k_ e_.symm).1 (fun hs_ => hk_.2.1 hs_) (fun hn_ => Nat.not_le.2 hk_.2.2 hn_)⟩))
              have n2_ := am (blk_kept (ub BK854.out) hkp (fun hs_ => Or.elim hs_ (fun e_ => (fun e_ => (Kd.R_ne HO_866000.out BK854.out (by decide)) e_) e_) (fun e_ => (fun e_ => (Kd.R_ne HO_866001.out BK854.out (by decide)) e_) e_)))
              have n3_ := am (blk_kept (ub BK865.out) hkp (fun hs_ => Or.elim hs_ (fun e_ => (fun e_ => (Kd.R_ne HO_866000.out BK865.out (by decide)) e_) e_) (fun e_ => (fun e_ => (Kd.R_ne HO_866001.out BK865.out (by decide)) e_) e_)))
              have n4_ := am (Kd.R_mono (ok' := fun k_ => nw k_ Ao42 x855000_3 co42 ∧ nw k_ Ao43 x855001_3 co43 ∧ nw k_ Ao47 t872 co47 ∧ nv k_ v876 ∧ nv k_ v881 ∧ nv k_ v884 ∧ nv k_ v887) (Kd.R_keptB (HO871.out) hkp (fun k_ hk_ hs_ => Or.elim hs_ (fun e_ => (hk_.2.2.1) e_) (fun e_ => (hk_.2.2.2.1) e_))) (fun k_ hk_ => ⟨hk_.1.1, hk_.1.2.1, hk_.1.2.2.2.2.1, hk_.1.2.2.2.2.2, fun e_ => Or.elim (ho0.1 k_ e_.symm).1 (fun hs_ => hk_.2.1 hs_) (fun hn_ => Nat.not_le.2 hk_.2.2 hn_), fun e_ => Or.elim (ho1.1 k_ e_.symm).1 (fun hs_ => hk_.2.1 hs_) (fun hn_ => Nat.not_le.2 hk_.2.2 hn_), fun e_ => Or.elim (ho2.1 k_ e_.symm).1 (fun hs_ => hk_.2.1 hs_) (fun hn_ => Nat.not_le.2 hk_.2.2 hn_)⟩))
              have n5_ := am (Kd.R_mono (ok' := fun k_ => nw k_ Ao42 x855000_3 co42 ∧ nw k_ Ao43 x855001_3 co43 ∧ nw k_ Ao45 t869 co45 ∧ nv k_ v876 ∧ nv k_ v881 ∧ nv k_ v884 ∧ nv k_ v887) (Kd.R_keptB (HO874.out) hkp (fun k_ hk_ hs_ => Or.elim hs_ (fun e_ => (hk_.2.2.1) e_) (fun e_ => (hk_.2.2.2.1) e_))) (fun k_ hk_ => ⟨hk_.1.1, hk_.1.2.1, hk_.1.2.2.2.2.1, hk_.1.2.2.2.2.2, fun e_ => Or.elim (ho0.1 k_ e_.symm).1 (fun hs_ => hk_.2.1 hs_) (fun hn_ => Nat.not_le.2 hk_.2.2 hn_), fun e_ => Or.elim (ho1.1 k_ e_.symm).1 (fun hs_ => hk_.2.1 hs_) (fun hn_ => Nat.not_le.2 hk_.2.2 hn_), fun e_ => Or.elim (ho2.1 k_ e_.symm).1 (fun hs_ => hk_.2.1 hs_) (fun hn_ => Nat.not_le.2 hk_.2.2 hn_)⟩))
              have n6_ := am (Kd.R_mono (ok' := fun k_ => nw k_ Ao42 x855000_3 co42 ∧ nw k_ Ao43 x855001_3 co43 ∧ nw k_ Ao45 t869 co45 ∧ nw k_ Ao47 t872 co47 ∧ nv k_ v881 ∧ nv k_ v884 ∧ nv k_ v887) (Kd.R_keptB (HO877.out) hkp (fun k_ hk_ hs_ => Or.elim hs_ (fun e_ => (hk_.2.2.1) e_) (fun e_ => (hk_.2.2.2.1) e_))) (fun k_ hk_ => ⟨hk_.1.1, hk_.1.2.1, hk_.1.2.2.2.2.1, hk_.1.2.2.2.2.2, fun e_ => Or.elim (ho0.1 k_ e_.symm).1 (fun hs_ => hk_.2.1 hs_) (fun hn_ => Nat.not_le.2 hk_.2.2 hn_), fun e_ => Or.elim (ho1.1 k_ e_.symm).1 (fun hs_ => hk_.2.1 hs_) (fun hn_ => Nat.not_le.2 hk_.2.2 hn_), fun e_ => Or.elim (ho2.1 k_ e_.symm).1 (fun hs_ => hk_.2.1 hs_) (fun hn_ => Nat.not_le.2 hk_.2.2 hn_)⟩))
              have n7_ := am (Kd.R_mono (ok' := fun k_ => nv k_ v884 ∧ nv k_ v887 ∧ nw k_ Ao42 x855000_3 co42 ∧ nw k_ Ao43 x855001_3 co43 ∧ nw k_ Ao45 t869 co45 ∧ nw k_ Ao47 t872 co47 ∧ nv k_ v876) ho0 (fun k_ hk_ => ⟨hk_.2.1, hk_.2.2, Or.elim hk_.1 (fun hs_ => Or.elim hs_ (fun hs_ => fun e_ => (((HO_855000.out).1 k_ e_.symm).2.1) hs_) (fun hs_ => fun e_ => (((HO_855000.out).1 k_ e_.symm).2.2.1) hs_)) (fun hn_ => (Kd.fresh' (Kd.R_lt (ua HO_855000.out)) k_ hn_)), Or.elim hk_.1 (fun hs_ => Or.elim hs_ (fun hs_ => fun e_ => (((HO_855001.out).1 k_ e_.symm).2.1) hs_) (fun hs_ => fun e_ => (((HO_855001.out).1 k_ e_.symm).2.2.1) hs_)) (fun hn_ => (Kd.fresh' (Kd.R_lt (ua HO_855001.out)) k_ hn_)), Or.elim hk_.1 (fun hs_ => Or.elim hs_ (fun hs_ => fun e_ => (((HO871.out).1 k_ e_.symm).2.2.1) hs_) (fun hs_ => fun e_ => (((HO871.out).1 k_ e_.symm).2.2.2.1) hs_)) (fun hn_ => (Kd.fresh' (Kd.R_lt (ua HO871.out)) k_ hn_)), Or.elim hk_.1 (fun hs_ => Or.elim hs_ (fun hs_ => fun e_ => (((HO874.out).1 k_ e_.symm).2.2.1) hs_) (fun hs_ => fun e_ => (((HO874.out).1 k_ e_.symm).2.2.2.1) hs_)) (fun hn_ => (Kd.fresh' (Kd.R_lt (ua HO874.out)) k_ hn_)), Or.elim hk_.1 (fun hs_ => Or.elim hs_ (fun hs_ => fun e_ => (((HO877.out).1 k_ e_.symm).2.2.1) hs_) (fun hs_ => fun e_ => (((HO877.out).1 k_ e_.symm).2.2.2.1) hs_)) (fun hn_ => (Kd.fresh' (Kd.R_lt (ua HO877.out)) k_ hn_))⟩))
              have n8_ := am (Kd.R_mono (ok' := fun k_ => nv k_ v881 ∧ nv k_ v887 ∧ nw k_ Ao42 x855000_3 co42 ∧ nw k_ Ao43 x855001_3 co43 ∧ nw k_ Ao45 t869 co45 ∧ nw k_ Ao47 t872 co47 ∧ nv k_ v876) ho1 (fun k_ hk_ => ⟨hk_.2.1, hk_.2.2, Or.elim hk_.1 (fun hs_ => Or.elim hs_ (fun hs_ => fun e_ => (((HO_855000.out).1 k_ e_.symm).2.1) hs_) (fun hs_ => fun e_ => (((HO_855000.out).1 k_ e_.symm).2.2.1) hs_)) (fun hn_ => (Kd.fresh' (Kd.R_lt (ua HO_855000.out)) k_ hn_)), Or.elim hk_.1 (fun hs_ => Or.elim hs_ (fun hs_ => fun e_ => (((HO_855001.out).1 k_ e_.symm).2.1) hs_) (fun hs_ => fun e_ => (((HO_855001.out).1 k_ e_.symm).2.2.1) hs_)) (fun hn_ => (Kd.fresh' (Kd.R_lt (ua HO_855001.out)) k_ hn_)), Or.elim hk_.1 (fun hs_ => Or.elim hs_ (fun hs_ => fun e_ => (((HO871.out).1 k_ e_.symm).2.2.1) hs_) (fun hs_ => fun e_ => (((HO871.out).1 k_ e_.symm).2.2.2.1) hs_)) (fun hn_ => (Kd.fresh' (Kd.R_lt (ua HO871.out)) k_ hn_)), Or.elim hk_.1 (fun hs_ => Or.elim hs_ (fun hs_ => fun e_ => (((HO874.out).1 k_ e_.symm).2.2.1) hs_) (fun hs_ => fun e_ => (((HO874.out).1 k_ e_.symm).2.2.2.1) hs_)) (fun hn_ => (Kd.fresh' (Kd.R_lt (ua HO874.out)) k_ hn_)), Or.elim hk_.1 (fun hs_ => Or.elim hs_ (fun hs_ => fun e_ => (((HO877.out).1 k_ e_.symm).2.2.1) hs_) (fun hs_ => fun e_ => (((HO877.out).1 k_ e_.symm).2.2.2.1) hs_)) (fun hn_ => (Kd.fresh' (Kd.R_lt (ua HO877.out)) k_ hn_))⟩))
              have n9_ := am (Kd.R_mono (ok' := fun k_ => nv k_ v881 ∧ nv k_ v884 ∧ nw k_ Ao42 x855000_3 co42 ∧ nw k_ Ao43 x855001_3 co43 ∧ nw k_ Ao45 t869 co45 ∧ nw k_ Ao47 t872 co47 ∧ nv k_ v876) ho2 (fun k_ hk_ => ⟨hk_.2.1, hk_.2.2, Or.elim hk_.1 (fun hs_ => Or.elim hs_ (fun hs_ => fun e_ => (((HO_855000.out).1 k_ e_.symm).2.1) hs_) (fun hs_ => fun e_ => (((HO_855000.out).1 k_ e_.symm).2.2.1) hs_)) (fun hn_ => (Kd.fresh' (Kd.R_lt (ua HO_855000.out)) k_ hn_)), Or.elim hk_.1 (fun hs_ => Or.elim hs_ (fun hs_ => fun e_ => (((HO_855001.out).1 k_ e_.symm).2.1) hs_) (fun hs_ => fun e_ => (((HO_855001.out).1 k_ e_.symm).2.2.1) hs_)) (fun hn_ => (Kd.fresh' (Kd.R_lt (ua HO_855001.out)) k_ hn_)), Or.elim hk_.1 (fun hs_ => Or.elim hs_ (fun hs_ => fun e_ => (((HO871.out).1 k_ e_.symm).2.2.1) hs_) (fun hs_ => fun e_ => (((HO871.out).1 k_ e_.symm).2.2.2.1) hs_)) (fun hn_ => (Kd.fresh' (Kd.R_lt (ua HO871.out)) k_ hn_)), Or.elim hk_.1 (fun hs_ => Or.elim hs_ (fun hs_ => fun e_ => (((HO874.out).1 k_ e_.symm).2.2.1) hs_) (fun hs_ => fun e_ => (((HO874.out).1 k_ e_.symm).2.2.2.1) hs_)) (fun hn_ => (Kd.fresh' (Kd.R_lt (ua HO874.out)) k_ hn_)), Or.elim hk_.1 (fun hs_ => Or.elim hs_ (fun hs_ => fun e_ => (((HO877.out).1 k_ e_.symm).2.2.1) hs_) (fun hs_ => fun e_ => (((HO877.out).1 k_ e_.symm).2.2.2.1) hs_)) (fun hn_ => (Kd.fresh' (Kd.R_lt (ua HO877.out)) k_ hn_))⟩))
              have n10_ := am (hb)
              revert n0_ n1_ n2_ n3_ n4_ n5_ n6_ n7_ n8_ n9_ n10_
              clear HO_855000 HO_855001 BK854 BK865 HO871 HO874 HO877 HB HO_866000 HO_866001
              intro HO_855000 HO_855001 BK854 BK865 HO871 HO874 HO877 HO882 HO885 HO888 HB
              (try clear hb)
              (try clear hkp)
              (try clear ho0)
              (try clear ho1)
              (try clear ho2)
              obtain ⟨Ao54, co54, eo54⟩ := Kd.R_slice HO882.out
              (first | subst eo54 | (injection eo54 with f1_ f2_ f3_; have f4_ := f1_.symm; have f5_ := f3_.symm; clear f1_ f2_ f3_; subst f4_; subst f5_))
              obtain ⟨Ao56, co56, eo56⟩ := Kd.R_slice HO885.out
              (first | subst eo56 | (injection eo56 with f1_ f2_ f3_; have f4_ := f1_.symm; have f5_ := f3_.symm; clear f1_ f2_ f3_; subst f4_; subst f5_))
              refine hK.out _ _ ⟨(blk_cell BK865.out 0).trans rfl, (blk_cell BK865.out 1).trans rfl, (bcel HB hw879_0), (bcel HB hw879_1)⟩ (fun hHeld => ?_)
              clear hK K
              refine norm_ (a' := ?_) ?_ ?_
              rotate_left
              ·show Act.put _ (some 90) _ = _
               simp only [Act.put, List.setIfInBounds_toArray, List.set_cons_zero, List.set_cons_succ, i64_w, i32_w]
               rfl
              refine pv 8 82 (bA 15 511) HT_ ?_
              refine pv 9 91 (bA 15 1023) HT_ ?_
              refine pv 10 92 (bA 15 2047) HT_ ?_
              refine pv 11 93 (bA 15 4095) HT_ ?_
              refine last_ (i := 12) (N := none) #[true, true, true, true, true, true, true, true, true, true, true, true, true, false, false] rfl rfl (one_of HT_.out (by kernel_rfl)) (by decide) (fun K hK => ?_)
              have hs55 : w53.cell? ⟨gb865, 0, none⟩ = some (.slice Ao51 x866000_3.length co51) := (blk_cell BK865.out 0).trans rfl
              have hfs55 := blk_frozen BK865.out 0
              have hns55_0 := NB854_865.out
              have hms55_0 := NB865_854.out
              have hs57 : w53.cell? ⟨gb865, 1, none⟩ = some (.slice Ao52 x866001_3.length co52) := (blk_cell BK865.out 1).trans rfl
              have hfs57 := blk_frozen BK865.out 1
              have hns57_0 := NB854_865.out
              have hms57_0 := NB865_854.out
              refine skip_ (w1 := ?_) (by rfl) rfl ?_ ?_
              rotate_left
              ·go_simp
               rfl
              refine hK.out _ _ ?_
              clear hK K
              refine pv 13 16 (bA 15 16383) HT_ ?_
              refine pv 14 13 (bA 15 32767) HT_ ?_
              refine done_ (done_of HT_.out (by kernel_rfl)) ?_
              try go_wp2
              go_meet
              case rel => exact ⟨_, (t878), (t889), (t875), (t886), (t869), (t872), (t880), (t883), (.slice Ao45 t869.length co45), (.slice Ao47 t872.length co47), (.slice Ao54 t880.length co54), (.slice Ao56 t883.length co56), uf, uf, (by first | exact H' | (rw [← Nbq37.out]; exact H')), ⟨by have := HJ5.out; have := HJ11.out; have := HK3.out; first | omega | exact Nat.le_refl _⟩, ⟨by (with_reducible repeat (first | apply Kd.R_alloc | apply Kd.R_drewN | apply Kd.R_drew)); exact Kd.R_mono (Kd.R_far (p := ⟨gb865, 1, none⟩) (Kd.R_far (p := ⟨gb865, 0, none⟩) (Kd.R_types HO877.out BK865.out (by decide)) (fun _ hk => hk.2) (.slice Ao54 t880.length co54)) (fun _ hk => hk.2) (.slice Ao56 t883.length co56)) (fun _ hk => ⟨hk.1.2.2.2.2.2.2, ⟨hk.1.2.2.1, ⟨hk.1.2.2.2.1, ⟨hk.1.2.2.2.2.1, hk.1.2.2.2.2.2.1⟩⟩⟩⟩)⟩, ⟨by (with_reducible repeat (first | apply Kd.R_alloc | apply Kd.R_drewN | apply Kd.R_drew)); exact Kd.R_mono (Kd.R_far (p := ⟨gb865, 1, none⟩) (Kd.R_far (p := ⟨gb865, 0, none⟩) (Kd.R_types HO888.out BK865.out (by decide)) (fun _ hk => hk.2) (.slice Ao54 t880.length co54)) (fun _ hk => hk.2) (.slice Ao56 t883.length co56)) (fun _ hk => ⟨hk.1.2.2.2.2.2.2, ⟨hk.1.2.2.2.2.1, ⟨hk.1.2.2.2.2.2.1, ⟨hk.1.1, hk.1.2.1⟩⟩⟩⟩)⟩, ⟨by (with_reducible repeat (first | apply Kd.R_alloc | apply Kd.R_drewN | apply Kd.R_drew)); exact Kd.R_mono (Kd.R_far (p := ⟨gb865, 1, none⟩) (Kd.R_far (p := ⟨gb865, 0, none⟩) (Kd.R_types HO871.out BK865.out (by decide)) (fun _ hk => hk.2) (.slice Ao54 t880.length co54)) (fun _ hk => hk.2) (.slice Ao56 t883.length co56)) (fun _ hk => ⟨hk.1.2.2.2.1, ⟨hk.1.2.2.2.2.2.2, ⟨hk.1.2.2.1, ⟨hk.1.2.2.2.2.1, hk.1.2.2.2.2.2.1⟩⟩⟩⟩)⟩, ⟨by (with_reducible repeat (first | apply Kd.R_alloc | apply Kd.R_drewN | apply Kd.R_drew)); exact Kd.R_mono (Kd.R_far (p := ⟨gb865, 1, none⟩) (Kd.R_far (p := ⟨gb865, 0, none⟩) (Kd.R_types HO874.out BK865.out (by decide)) (fun _ hk => hk.2) (.slice Ao54 t880.length co54)) (fun _ hk => hk.2) (.slice Ao56 t883.length co56)) (fun _ hk => ⟨hk.1.2.2.2.1, ⟨hk.1.2.2.2.2.2.2, ⟨hk.1.2.2.1, ⟨hk.1.2.2.2.2.1, hk.1.2.2.2.2.2.1⟩⟩⟩⟩)⟩, ⟨by (with_reducible repeat (first | apply Kd.R_alloc | apply Kd.R_drewN | apply Kd.R_drew)); exact Kd.R_mono (Kd.R_far (p := ⟨gb865, 1, none⟩) (Kd.R_far (p := ⟨gb865, 0, none⟩) (Kd.R_types HO882.out BK865.out (by decide)) (fun _ hk => hk.2) (.slice Ao54 t880.length co54)) (fun _ hk => hk.2) (.slice Ao56 t883.length co56)) (fun _ hk => ⟨hk.1.2.2.2.2.2.2, ⟨hk.1.2.1, ⟨hk.1.2.2.2.2.1, ⟨hk.1.2.2.2.2.2.1, hk.1.1⟩⟩⟩⟩)⟩, ⟨by (with_reducible repeat (first | apply Kd.R_alloc | apply Kd.R_drewN | apply Kd.R_drew)); exact Kd.R_mono (Kd.R_far (p := ⟨gb865, 1, none⟩) (Kd.R_far (p := ⟨gb865, 0, none⟩) (Kd.R_types HO885.out BK865.out (by decide)) (fun _ hk => hk.2) (.slice Ao54 t880.length co54)) (fun _ hk => hk.2) (.slice Ao56 t883.length co56)) (fun _ hk => ⟨hk.1.2.2.2.2.2.2, ⟨hk.1.2.1, ⟨hk.1.2.2.2.2.1, ⟨hk.1.2.2.2.2.2.1, hk.1.1⟩⟩⟩⟩)⟩, ⟨by (iterate 2 ((with_reducible repeat (first | refine blk_drewN ?_ _ | refine blk_drew ?_ | refine blk_alloc ?_ _)); refine blk_far ?_ NB854_865.out _)); (with_reducible repeat (first | refine blk_drewN ?_ _ | refine blk_drew ?_ | refine blk_alloc ?_ _)); first | exact BK854.out | (rw [← Nbq37.out]; exact BK854.out)⟩, ⟨by (with_reducible repeat (first | refine blk_drewN ?_ _ | refine blk_drew ?_ | refine blk_alloc ?_ _)); refine blk_put (cs := #[.slice Ao54 t880.length co54, .slice Ao52 x866001_3.length co52]) ?_ 1 _ rfl; (with_reducible repeat (first | refine blk_drewN ?_ _ | refine blk_drew ?_ | refine blk_alloc ?_ _)); refine blk_put (cs := #[.slice Ao51 x866000_3.length co51, .slice Ao52 x866001_3.length co52]) ?_ 0 _ rfl; (with_reducible repeat (first | refine blk_drewN ?_ _ | refine blk_drew ?_ | refine blk_alloc ?_ _)); first | exact BK865.out | (rw [← Nbq37.out]; exact BK865.out)⟩, ⟨uc HB.out⟩⟩
             ·replace c38 := Bool.eq_false_iff.mpr c38
              subst c38
              have H1 : ((dl_Close.f k3 l0 x855000_3 x855001_3 ((rd_T58 l2 x14_3).f1)).bind fun bt891 => ((curtilageref21_Close.f k3 l0 x866000_3 x866001_3 ((rd_T58 l2 x14_3).f1)).bind fun bt902 => (curtilagelaw21_DlPlays.j3 k3 l0 l2 t845 bt891.2.2.2 bt902.2.2.2 x14_3 bt891.2.2.1 bt902.2.2.1 bt891.1 bt891.2.1 bt902.1 bt902.2.1))) = some r := by rw [if_neg (show ¬ (false = true) by decide)] at H; exact H
              clear H
              have H := H1
              clear H1
              replace H := Option.bind_eq_some_iff.mp H
              obtain ⟨⟨t891, t894, t897, t900⟩, A580, H⟩ := H
              replace H : ((curtilageref21_Close.f k3 l0 x866000_3 x866001_3 ((rd_T58 l2 x14_3).f1)).bind fun bt902 => (curtilagelaw21_DlPlays.j3 k3 l0 l2 t845 t900 bt902.2.2.2 x14_3 t897 bt902.2.2.1 t891 t894 bt902.1 bt902.2.1)) = some r := H
              have A58 := am A580
              clear A580
              replace H := Option.bind_eq_some_iff.mp H
              obtain ⟨⟨t902, t905, t908, t911⟩, A590, H⟩ := H
              replace H : (curtilagelaw21_DlPlays.j3 k3 l0 l2 t845 t900 t911 x14_3 t897 t908 t891 t894 t902 t905) = some r := H
              have A59 := am A590
              clear A590
              have H' := am H
              clear H
              try go_wp2
              have n0_ := am (Kd.R_drew HO_855000.out)
              have n1_ := am (Kd.R_drew HO_855001.out)
              have n2_ := am (Kd.R_drew HO_866000.out)
              have n3_ := am (Kd.R_drew HO_866001.out)
              have n4_ := am (blk_drew BK854.out)
              have n5_ := am (blk_drew BK865.out)
              have n6_ := am (below_drew1 HB.out)
              revert n0_ n1_ n2_ n3_ n4_ n5_ n6_
              clear HO_855000 HO_855001 HO_866000 HO_866001 BK854 BK865 HB
              intro HO_855000 HO_855001 HO_866000 HO_866001 BK854 BK865 HB
              have p890 : 0 ≤ (x14_3 : Int) := ud
              have q890 : x14_3 < (l2.length : Int) := ud
              obtain ⟨ad890, e890, hx890_0, hx890_1⟩ := at_T58 HR2.out x14_3 p890 q890
              have hw890_1 := hx890_1
              have hw890_0 := hx890_0
              (try rw [← Nbq37.out] at hx890_0)
              (try rw [← Nbq37.out] at hw890_0)
              obtain rfl : ad867 = ad890 := (by injection e890)
              replace hx890_0 := bcel HB hx890_0
              replace hx890_1 := bcel HB hx890_1
              replace p890 := eq_true p890
              replace q890 := eq_true q890
              obtain ⟨Ao61, co61, eo61⟩ := Kd.R_slice HO_855000.out
              (first | subst eo61 | (injection eo61 with f1_ f2_ f3_; have f4_ := f1_.symm; have f5_ := f3_.symm; clear f1_ f2_ f3_; subst f4_; subst f5_))
              obtain ⟨Ao62, co62, eo62⟩ := Kd.R_slice HO_855001.out
              (first | subst eo62 | (injection eo62 with f1_ f2_ f3_; have f4_ := f1_.symm; have f5_ := f3_.symm; clear f1_ f2_ f3_; subst f4_; subst f5_))
              refine start_ (n := 15) (S := fun w' => w'.cell? ⟨gb854, 0, none⟩ = some (.slice Ao61 x855000_3.length co61) ∧ w'.cell? ⟨gb854, 1, none⟩ = some (.slice Ao62 x855001_3.length co62) ∧ w'.cell? (ad867.add ((x14_3).toNat * 2)) = some (.bool (false)) ∧ w'.cell? ⟨(ad867.add ((x14_3).toNat * 2)).block, (ad867.add ((x14_3).toNat * 2)).off + 1, none⟩ = some (.string ((rd_T58 l2 x14_3).f1))) (ds := [12]) #[false, false, false, false, false, false, false, false, false, false, false, false, false, false, false] (by kernel_rfl) rfl rfl ⟨(blk_cell BK854.out 0).trans rfl, (blk_cell BK854.out 1).trans rfl, (bcel HB hw890_0), (bcel HB hw890_1)⟩ (fun hHeld => ?_); refine with_tabW curtilagelaw21_DlPlays.tab19 curtilagelaw21_DlPlays.bits19 (fun HT_ HW_ => ?_)
              generalize wr.drew = w60 at HO_855000 HO_855001 HO_866000 HO_866001 BK854 BK865 HB hx890_0 hx890_1 hHeld ⊢
              refine pv 0 95 (bA 15 1) HT_ ?_
              refine pv 2 97 (bA 15 5) HT_ ?_
              refine pv 3 98 (bA 15 13) HT_ ?_
              refine pv 4 99 (bA 15 29) HT_ ?_
              refine pv 5 100 (bA 15 61) HT_ ?_
              refine tv 1 96 (bA 15 63) HT_ HW_ hHeld ?_ (hy := by rintro w' ⟨s0, s1, s2, s3⟩; go_simp; with_reducible rfl)
              refine tv 6 101 (bA 15 127) HT_ HW_ hHeld ?_ (hy := by rintro w' ⟨s0, s1, s2, s3⟩; go_simp; with_reducible rfl)
              refine one_ (i := 7) (N := some 102) #[true, true, true, true, true, true, true, true, false, false, false, false, false, false, false] rfl rfl (one_of HT_.out (by kernel_rfl)) (by decide) (fun K hK => ?_)
              refine goes_ Try.func17 (by kernel_rfl) rfl #[.slice A0 l0.length c0, .agg #[.slice Ao61 x855000_3.length co61, .slice Ao62 x855001_3.length co62], .string ((rd_T58 l2 x14_3).f1)] (by rfl) rfl rfl (by (try simp only [List.map_toArray, List.map_cons, List.map_nil]); first | done | rfl | (simp only [List.length_drop, List.length_take]; rfl)) ?_
              with_reducible refine (dl_Close.calls k3 _ _ l0 _ _ x855000_3 _ _ x855001_3 ((rd_T58 l2 x14_3).f1) t891 t894 t897 t900 _ ?side1 ?side2 ?side3 ?side4 ?side5 ?side6 A58.out).mono ?_
              (case side1 => exact us (Kd.C_below HR0.out HB.out))
              (case side2 => exact HC0.out)
              (case side3 => exact us (Kd.R_reads' HO_855000.out).2.2)
              (case side4 => exact (Kd.R_reads' HO_855000.out).2.1)
              (case side5 => exact us (Kd.R_reads' HO_855001.out).2.2)
              (case side6 => exact (Kd.R_reads' HO_855001.out).2.1)
              rintro e w63 ⟨v892, v895, v898, rfl, ho0, ho1, ho2, hb⟩
              refine ⟨_, rfl, ?_⟩
              have n0_ := am (Kd.R_mono (Kd.R_told (Kd.R_told (Kd.R_told (Kd.R_old (ua HO_855000.out) hb) (Kd.R_base ho0)) (Kd.R_base ho1)) (Kd.R_base ho2)) (fun _ h_ => h_.1))
              have n1_ := am (Kd.R_mono (Kd.R_told (Kd.R_told (Kd.R_told (Kd.R_old (ua HO_855001.out) hb) (Kd.R_base ho0)) (Kd.R_base ho1)) (Kd.R_base ho2)) (fun _ h_ => h_.1))
              have n2_ := am (Kd.R_mono (Kd.R_told (Kd.R_told (Kd.R_told (Kd.R_old (ua HO_866000.out) hb) (Kd.R_base ho0)) (Kd.R_base ho1)) (Kd.R_base ho2)) (fun _ h_ => h_.1))
              have n3_ := am (Kd.R_mono (Kd.R_told (Kd.R_told (Kd.R_told (Kd.R_old (ua HO_866001.out) hb) (Kd.R_base ho0)) (Kd.R_base ho1)) (Kd.R_base ho2)) (fun _ h_ => h_.1))
              have n4_ := am (Kd.R_lower (Kd.R_new' (Kd.R_new' (Kd.R_new' (Kd.R_new' ho0 (Kd.R_lt (ua HO_855000.out))) (Kd.R_lt (ua HO_855001.out))) (Kd.R_lt (ua HO_866000.out))) (Kd.R_lt (ua HO_866001.out))) (below_size (uc HB.out)))
              have n5_ := am (Kd.R_lower (Kd.R_new' (Kd.R_new' (Kd.R_new' (Kd.R_new' ho1 (Kd.R_lt (ua HO_855000.out))) (Kd.R_lt (ua HO_855001.out))) (Kd.R_lt (ua HO_866000.out))) (Kd.R_lt (ua HO_866001.out))) (below_size (uc HB.out)))
              have n6_ := am (Kd.R_lower (Kd.R_new' (Kd.R_new' (Kd.R_new' (Kd.R_new' ho2 (Kd.R_lt (ua HO_855000.out))) (Kd.R_lt (ua HO_855001.out))) (Kd.R_lt (ua HO_866000.out))) (Kd.R_lt (ua HO_866001.out))) (below_size (uc HB.out)))
              have n7_ := am (blk_below (g := gb854) (o := .cells #[.slice Ao61 x855000_3.length co61, .slice Ao62 x855001_3.length co62] 28 (0, 0)) (ub BK854.out) hb)
              have n8_ := am (blk_below (g := gb865) (o := .cells #[u866000, u866001] 53 (0, 0)) (ub BK865.out) hb)
              have n9_ := am (below_step (uc HB.out) hb)
              revert n0_ n1_ n2_ n3_ n4_ n5_ n6_ n7_ n8_ n9_
              clear HO_855000 HO_855001 HO_866000 HO_866001 BK854 BK865 HB
              intro HO_855000 HO_855001 HO_866000 HO_866001 HO893 HO896 HO899 BK854 BK865 HB
              (try clear hb)
              (try clear hb2)
              (try clear hk)
              (try clear hi)
              (try clear ho0)
              (try clear ho1)
              (try clear ho2)
              obtain ⟨Ao64, co64, eo64⟩ := Kd.R_slice HO893.out
              (first | subst eo64 | (injection eo64 with f1_ f2_ f3_; have f4_ := f1_.symm; have f5_ := f3_.symm; clear f1_ f2_ f3_; subst f4_; subst f5_))
              obtain ⟨Ao66, co66, eo66⟩ := Kd.R_slice HO896.out
              (first | subst eo66 | (injection eo66 with f1_ f2_ f3_; have f4_ := f1_.symm; have f5_ := f3_.symm; clear f1_ f2_ f3_; subst f4_; subst f5_))
              refine hK.out _ _ ⟨(blk_cell BK854.out 0).trans rfl, (blk_cell BK854.out 1).trans rfl, (bcel HB hw890_0), (bcel HB hw890_1)⟩ (fun hHeld => ?_)
              clear hK K
              refine norm_ (a' := ?_) ?_ ?_
              rotate_left
              ·show Act.put _ (some 102) _ = _
               simp only [Act.put, List.setIfInBounds_toArray, List.set_cons_zero, List.set_cons_succ, i64_w, i32_w]
               rfl
              refine pv 8 94 (bA 15 511) HT_ ?_
              refine pv 9 103 (bA 15 1023) HT_ ?_
              refine pv 10 104 (bA 15 2047) HT_ ?_
              refine pv 11 105 (bA 15 4095) HT_ ?_
              refine last_ (i := 12) (N := none) #[true, true, true, true, true, true, true, true, true, true, true, true, true, false, false] rfl rfl (one_of HT_.out (by kernel_rfl)) (by decide) (fun K hK => ?_)
              have hs65 : w63.cell? ⟨gb854, 0, none⟩ = some (.slice Ao61 x855000_3.length co61) := (blk_cell BK854.out 0).trans rfl
              have hfs65 := blk_frozen BK854.out 0
              have hns65_1 := NB865_854.out
              have hms65_1 := NB854_865.out
              have hs67 : w63.cell? ⟨gb854, 1, none⟩ = some (.slice Ao62 x855001_3.length co62) := (blk_cell BK854.out 1).trans rfl
              have hfs67 := blk_frozen BK854.out 1
              have hns67_1 := NB865_854.out
              have hms67_1 := NB854_865.out
              refine skip_ (w1 := ?_) (by rfl) rfl ?_ ?_
              rotate_left
              ·go_simp
               rfl
              refine hK.out _ _ ?_
              clear hK K
              refine pv 13 15 (bA 15 16383) HT_ ?_
              refine pv 14 10 (bA 15 32767) HT_ ?_
              refine done_ (done_of HT_.out (by kernel_rfl)) ?_
              try go_wp2
              have n0_ : Aside0 (Kd.R (Kd.int .i64) 3 ((w63.setCell ⟨gb854, 0, none⟩ (.slice Ao64 t891.length co64)).setCell ⟨gb854, 1, none⟩ (.slice Ao66 t894.length co66)) w.heap.size (fun k_ => nw k_ Ao62 x855001_3 co62 ∧ nv k_ u866000 ∧ nv k_ u866001 ∧ nw k_ Ao64 t891 co64 ∧ nw k_ Ao66 t894 co66 ∧ nv k_ v898) (.slice Ao61 x855000_3.length co61) x855000_3) := ⟨by (with_reducible repeat (first | apply Kd.R_alloc | apply Kd.R_drewN | apply Kd.R_drew)); exact Kd.R_mono (Kd.R_far (p := ⟨gb854, 1, none⟩) (Kd.R_far (p := ⟨gb854, 0, none⟩) (Kd.R_types HO_855000.out BK854.out (by decide)) (fun _ hk => hk.2) (.slice Ao64 t891.length co64)) (fun _ hk => hk.2) (.slice Ao66 t894.length co66)) (fun _ hk => ⟨hk.1.1.1.1.1, ⟨hk.1.1.1.1.2.1, ⟨hk.1.1.1.1.2.2, ⟨hk.1.1.1.2, ⟨hk.1.1.2, hk.1.2⟩⟩⟩⟩⟩)⟩
              have n1_ : Aside0 (Kd.R (Kd.int .i64) 3 ((w63.setCell ⟨gb854, 0, none⟩ (.slice Ao64 t891.length co64)).setCell ⟨gb854, 1, none⟩ (.slice Ao66 t894.length co66)) w.heap.size (fun k_ => nw k_ Ao61 x855000_3 co61 ∧ nv k_ u866000 ∧ nv k_ u866001 ∧ nw k_ Ao64 t891 co64 ∧ nw k_ Ao66 t894 co66 ∧ nv k_ v898) (.slice Ao62 x855001_3.length co62) x855001_3) := ⟨by (with_reducible repeat (first | apply Kd.R_alloc | apply Kd.R_drewN | apply Kd.R_drew)); exact Kd.R_mono (Kd.R_far (p := ⟨gb854, 1, none⟩) (Kd.R_far (p := ⟨gb854, 0, none⟩) (Kd.R_types HO_855001.out BK854.out (by decide)) (fun _ hk => hk.2) (.slice Ao64 t891.length co64)) (fun _ hk => hk.2) (.slice Ao66 t894.length co66)) (fun _ hk => ⟨hk.1.1.1.1.1, ⟨hk.1.1.1.1.2.1, ⟨hk.1.1.1.1.2.2, ⟨hk.1.1.1.2, ⟨hk.1.1.2, hk.1.2⟩⟩⟩⟩⟩)⟩
              have n2_ : Aside0 (Kd.R (Kd.int .i64) 3 ((w63.setCell ⟨gb854, 0, none⟩ (.slice Ao64 t891.length co64)).setCell ⟨gb854, 1, none⟩ (.slice Ao66 t894.length co66)) w.heap.size (fun k_ => nw k_ Ao61 x855000_3 co61 ∧ nw k_ Ao62 x855001_3 co62 ∧ nv k_ u866001 ∧ nw k_ Ao64 t891 co64 ∧ nw k_ Ao66 t894 co66 ∧ nv k_ v898) u866000 x866000_3) := ⟨by (with_reducible repeat (first | apply Kd.R_alloc | apply Kd.R_drewN | apply Kd.R_drew)); exact Kd.R_mono (Kd.R_far (p := ⟨gb854, 1, none⟩) (Kd.R_far (p := ⟨gb854, 0, none⟩) (Kd.R_types HO_866000.out BK854.out (by decide)) (fun _ hk => hk.2) (.slice Ao64 t891.length co64)) (fun _ hk => hk.2) (.slice Ao66 t894.length co66)) (fun _ hk => ⟨hk.1.1.1.1.1, ⟨hk.1.1.1.1.2.1, ⟨hk.1.1.1.1.2.2, ⟨hk.1.1.1.2, ⟨hk.1.1.2, hk.1.2⟩⟩⟩⟩⟩)⟩
              have n3_ : Aside0 (Kd.R (Kd.int .i64) 3 ((w63.setCell ⟨gb854, 0, none⟩ (.slice Ao64 t891.length co64)).setCell ⟨gb854, 1, none⟩ (.slice Ao66 t894.length co66)) w.heap.size (fun k_ => nw k_ Ao61 x855000_3 co61 ∧ nw k_ Ao62 x855001_3 co62 ∧ nv k_ u866000 ∧ nw k_ Ao64 t891 co64 ∧ nw k_ Ao66 t894 co66 ∧ nv k_ v898) u866001 x866001_3) := ⟨by (with_reducible repeat (first | apply Kd.R_alloc | apply Kd.R_drewN | apply Kd.R_drew)); exact Kd.R_mono (Kd.R_far (p := ⟨gb854, 1, none⟩) (Kd.R_far (p := ⟨gb854, 0, none⟩) (Kd.R_types HO_866001.out BK854.out (by decide)) (fun _ hk => hk.2) (.slice Ao64 t891.length co64)) (fun _ hk => hk.2) (.slice Ao66 t894.length co66)) (fun _ hk => ⟨hk.1.1.1.1.1, ⟨hk.1.1.1.1.2.1, ⟨hk.1.1.1.1.2.2, ⟨hk.1.1.1.2, ⟨hk.1.1.2, hk.1.2⟩⟩⟩⟩⟩)⟩
              have n4_ : Aside0 (Kd.R (Kd.int .i64) 3 ((w63.setCell ⟨gb854, 0, none⟩ (.slice Ao64 t891.length co64)).setCell ⟨gb854, 1, none⟩ (.slice Ao66 t894.length co66)) w.heap.size (fun k_ => nw k_ Ao61 x855000_3 co61 ∧ nw k_ Ao62 x855001_3 co62 ∧ nv k_ u866000 ∧ nv k_ u866001 ∧ nw k_ Ao66 t894 co66 ∧ nv k_ v898) (.slice Ao64 t891.length co64) t891) := ⟨by (with_reducible repeat (first | apply Kd.R_alloc | apply Kd.R_drewN | apply Kd.R_drew)); exact Kd.R_mono (Kd.R_far (p := ⟨gb854, 1, none⟩) (Kd.R_far (p := ⟨gb854, 0, none⟩) (Kd.R_types HO893.out BK854.out (by decide)) (fun _ hk => hk.2) (.slice Ao64 t891.length co64)) (fun _ hk => hk.2) (.slice Ao66 t894.length co66)) (fun _ hk => ⟨hk.1.1.1.1.2, ⟨hk.1.1.1.2, ⟨hk.1.1.2, ⟨hk.1.2, ⟨hk.1.1.1.1.1.1, hk.1.1.1.1.1.2⟩⟩⟩⟩⟩)⟩
              have n5_ : Aside0 (Kd.R (Kd.int .i64) 3 ((w63.setCell ⟨gb854, 0, none⟩ (.slice Ao64 t891.length co64)).setCell ⟨gb854, 1, none⟩ (.slice Ao66 t894.length co66)) w.heap.size (fun k_ => nw k_ Ao61 x855000_3 co61 ∧ nw k_ Ao62 x855001_3 co62 ∧ nv k_ u866000 ∧ nv k_ u866001 ∧ nw k_ Ao64 t891 co64 ∧ nv k_ v898) (.slice Ao66 t894.length co66) t894) := ⟨by (with_reducible repeat (first | apply Kd.R_alloc | apply Kd.R_drewN | apply Kd.R_drew)); exact Kd.R_mono (Kd.R_far (p := ⟨gb854, 1, none⟩) (Kd.R_far (p := ⟨gb854, 0, none⟩) (Kd.R_types HO896.out BK854.out (by decide)) (fun _ hk => hk.2) (.slice Ao64 t891.length co64)) (fun _ hk => hk.2) (.slice Ao66 t894.length co66)) (fun _ hk => ⟨hk.1.1.1.1.2, ⟨hk.1.1.1.2, ⟨hk.1.1.2, ⟨hk.1.2, ⟨hk.1.1.1.1.1.1, hk.1.1.1.1.1.2⟩⟩⟩⟩⟩)⟩
              have n6_ : Aside0 (Kd.R (Kd.int .i64) 3 ((w63.setCell ⟨gb854, 0, none⟩ (.slice Ao64 t891.length co64)).setCell ⟨gb854, 1, none⟩ (.slice Ao66 t894.length co66)) w.heap.size (fun k_ => nw k_ Ao61 x855000_3 co61 ∧ nw k_ Ao62 x855001_3 co62 ∧ nv k_ u866000 ∧ nv k_ u866001 ∧ nw k_ Ao64 t891 co64 ∧ nw k_ Ao66 t894 co66) v898 t897) := ⟨by (with_reducible repeat (first | apply Kd.R_alloc | apply Kd.R_drewN | apply Kd.R_drew)); exact Kd.R_mono (Kd.R_far (p := ⟨gb854, 1, none⟩) (Kd.R_far (p := ⟨gb854, 0, none⟩) (Kd.R_types HO899.out BK854.out (by decide)) (fun _ hk => hk.2) (.slice Ao64 t891.length co64)) (fun _ hk => hk.2) (.slice Ao66 t894.length co66)) (fun _ hk => ⟨hk.1.1.1.1.2, ⟨hk.1.1.1.2, ⟨hk.1.1.2, ⟨hk.1.2, ⟨hk.1.1.1.1.1.1, hk.1.1.1.1.1.2⟩⟩⟩⟩⟩)⟩
              have n7_ : Aside0 (((w63.setCell ⟨gb854, 0, none⟩ (.slice Ao64 t891.length co64)).setCell ⟨gb854, 1, none⟩ (.slice Ao66 t894.length co66)).heap[gb854]? = some (.cells #[.slice Ao64 t891.length co64, .slice Ao66 t894.length co66] 28 (0, 0))) := ⟨by (with_reducible repeat (first | refine blk_drewN ?_ _ | refine blk_drew ?_ | refine blk_alloc ?_ _)); refine blk_put (cs := #[.slice Ao64 t891.length co64, .slice Ao62 x855001_3.length co62]) ?_ 1 _ rfl; (with_reducible repeat (first | refine blk_drewN ?_ _ | refine blk_drew ?_ | refine blk_alloc ?_ _)); refine blk_put (cs := #[.slice Ao61 x855000_3.length co61, .slice Ao62 x855001_3.length co62]) ?_ 0 _ rfl; (with_reducible repeat (first | refine blk_drewN ?_ _ | refine blk_drew ?_ | refine blk_alloc ?_ _)); exact BK854.out⟩
              have n8_ : Aside0 (((w63.setCell ⟨gb854, 0, none⟩ (.slice Ao64 t891.length co64)).setCell ⟨gb854, 1, none⟩ (.slice Ao66 t894.length co66)).heap[gb865]? = some (.cells #[u866000, u866001] 53 (0, 0))) := ⟨by (iterate 2 ((with_reducible repeat (first | refine blk_drewN ?_ _ | refine blk_drew ?_ | refine blk_alloc ?_ _)); refine blk_far ?_ NB865_854.out _)); (with_reducible repeat (first | refine blk_drewN ?_ _ | refine blk_drew ?_ | refine blk_alloc ?_ _)); exact BK865.out⟩
              have n9_ : Aside0 (Below w.heap.size w ((w63.setCell ⟨gb854, 0, none⟩ (.slice Ao64 t891.length co64)).setCell ⟨gb854, 1, none⟩ (.slice Ao66 t894.length co66))) := ⟨uc HB.out⟩
              (try clear HO_855000)
              (try clear HO_855001)
              (try clear HO_866000)
              (try clear HO_866001)
              (try clear HO893)
              (try clear HO896)
              (try clear HO899)
              (try clear BK854)
              (try clear BK865)
              (try clear HB)
              generalize ((w63.setCell ⟨gb854, 0, none⟩ (.slice Ao64 t891.length co64)).setCell ⟨gb854, 1, none⟩ (.slice Ao66 t894.length co66)) = w68 at n0_ n1_ n2_ n3_ n4_ n5_ n6_ n7_ n8_ n9_ ⊢
              revert n0_ n1_ n2_ n3_ n4_ n5_ n6_ n7_ n8_ n9_
              intro HO_855000 HO_855001 HO_866000 HO_866001 HO893 HO896 HO899 BK854 BK865 HB
              have n0_ := am (Kd.R_drew HO_855000.out)
              have n1_ := am (Kd.R_drew HO_855001.out)
              have n2_ := am (Kd.R_drew HO_866000.out)
              have n3_ := am (Kd.R_drew HO_866001.out)
              have n4_ := am (Kd.R_drew HO893.out)
              have n5_ := am (Kd.R_drew HO896.out)
              have n6_ := am (Kd.R_drew HO899.out)
              have n7_ := am (blk_drew BK854.out)
              have n8_ := am (blk_drew BK865.out)
              have n9_ := am (below_drew1 HB.out)
              revert n0_ n1_ n2_ n3_ n4_ n5_ n6_ n7_ n8_ n9_
              clear HO_855000 HO_855001 HO_866000 HO_866001 HO893 HO896 HO899 BK854 BK865 HB
              intro HO_855000 HO_855001 HO_866000 HO_866001 HO893 HO896 HO899 BK854 BK865 HB
              have p901 : 0 ≤ (x14_3 : Int) := ud
              have q901 : x14_3 < (l2.length : Int) := ud
              obtain ⟨ad901, e901, hx901_0, hx901_1⟩ := at_T58 HR2.out x14_3 p901 q901
              have hw901_1 := hx901_1
              have hw901_0 := hx901_0
              (try rw [← Nbq37.out] at hx901_0)
              (try rw [← Nbq37.out] at hw901_0)
              obtain rfl : ad867 = ad901 := (by injection e901)
              replace hx901_0 := bcel HB hx901_0
              replace hx901_1 := bcel HB hx901_1
              replace p901 := eq_true p901
              replace q901 := eq_true q901
              obtain ⟨Ao70, co70, eo70⟩ := Kd.R_slice HO_866000.out
              (first | subst eo70 | (injection eo70 with f1_ f2_ f3_; have f4_ := f1_.symm; have f5_ := f3_.symm; clear f1_ f2_ f3_; subst f4_; subst f5_))
              obtain ⟨Ao71, co71, eo71⟩ := Kd.R_slice HO_866001.out
              (first | subst eo71 | (injection eo71 with f1_ f2_ f3_; have f4_ := f1_.symm; have f5_ := f3_.symm; clear f1_ f2_ f3_; subst f4_; subst f5_))
              refine start_ (n := 15) (S := fun w' => w'.cell? ⟨gb865, 0, none⟩ = some (.slice Ao70 x866000_3.length co70) ∧ w'.cell? ⟨gb865, 1, none⟩ = some (.slice Ao71 x866001_3.length co71) ∧ w'.cell? (ad867.add ((x14_3).toNat * 2)) = some (.bool (false)) ∧ w'.cell? ⟨(ad867.add ((x14_3).toNat * 2)).block, (ad867.add ((x14_3).toNat * 2)).off + 1, none⟩ = some (.string ((rd_T58 l2 x14_3).f1))) (ds := [12]) #[false, false, false, false, false, false, false, false, false, false, false, false, false, false, false] (by kernel_rfl) rfl rfl ⟨(blk_cell BK865.out 0).trans rfl, (blk_cell BK865.out 1).trans rfl, (bcel HB hw901_0), (bcel HB hw901_1)⟩ (fun hHeld => ?_); refine with_tabW curtilagelaw21_DlPlays.tab20 curtilagelaw21_DlPlays.bits20 (fun HT_ HW_ => ?_)
              generalize w68.drew = w69 at HO_855000 HO_855001 HO_866000 HO_866001 HO893 HO896 HO899 BK854 BK865 HB hx901_0 hx901_1 hHeld ⊢
              refine pv 0 107 (bA 15 1) HT_ ?_
              refine pv 2 109 (bA 15 5) HT_ ?_
              refine pv 3 110 (bA 15 13) HT_ ?_
              refine pv 4 111 (bA 15 29) HT_ ?_
              refine pv 5 112 (bA 15 61) HT_ ?_
              refine tv 1 108 (bA 15 63) HT_ HW_ hHeld ?_ (hy := by rintro w' ⟨s0, s1, s2, s3⟩; go_simp; with_reducible rfl)
              refine tv 6 113 (bA 15 127) HT_ HW_ hHeld ?_ (hy := by rintro w' ⟨s0, s1, s2, s3⟩; go_simp; with_reducible rfl)
              refine one_ (i := 7) (N := some 114) #[true, true, true, true, true, true, true, true, false, false, false, false, false, false, false] rfl rfl (one_of HT_.out (by kernel_rfl)) (by decide) (fun K hK => ?_)
              refine goes_ Try.func25 (by kernel_rfl) rfl #[.slice A0 l0.length c0, .agg #[.slice Ao70 x866000_3.length co70, .slice Ao71 x866001_3.length co71], .string ((rd_T58 l2 x14_3).f1)] (by rfl) rfl rfl (by (try simp only [List.map_toArray, List.map_cons, List.map_nil]); first | done | rfl | (simp only [List.length_drop, List.length_take]; rfl)) ?_
              with_reducible refine (curtilageref21_Close.calls k3 _ _ l0 (fun k_ => some k_ = ow Ao70 x866000_3 co70) (.slice Ao70 x866000_3.length co70) x866000_3 (fun k_ => some k_ = ow Ao71 x866001_3 co71) (.slice Ao71 x866001_3.length co71) x866001_3 ((rd_T58 l2 x14_3).f1) t902 t905 t908 t911 w _ ?side1 ?side2 ?side3 ?side4 ?side5 ?side6 ?side7 A59.out).mono ?_
              (case side1 => repeat (first | (with_reducible first | exact HB.out | apply below_alloc | apply pw_below_drewN | apply below_drew1 | refine below_set ?_ GE854.out | refine below_set ?_ GE865.out) | exact HB.out))
              (case side2 => exact Kd.C_kept_came k38_heap HR0.out (uc HB.out) (fun k_ hs_ => Or.elim hs_ (fun e_ => (fun e_ => Kd.R_base HO_866000.out k_ e_.symm) e_) (fun e_ => (fun e_ => Kd.R_base HO_866001.out k_ e_.symm) e_)))
              (case side3 => exact HC0.out)
              (case side4 => exact Kd.R_tight rfl HO_866000.out)
              (case side5 => exact fun k_ e_ => (HO_866000.out.1 k_ e_.symm).2.2.1)
              (case side6 => exact Kd.R_tight rfl HO_866001.out)
              (case side7 => exact fun k_ e_ => (HO_866001.out.1 k_ e_.symm).2.2.1)
              rintro e w72 ⟨v903, v906, v909, rfl, ho0, ho1, ho2, hb, hkp⟩
              refine ⟨_, rfl, ?_⟩
              have n0_ := am (Kd.R_mono (ok' := fun k_ => nw k_ Ao62 x855001_3 co62 ∧ nw k_ Ao64 t891 co64 ∧ nw k_ Ao66 t894 co66 ∧ nv k_ v898 ∧ nv k_ v903 ∧ nv k_ v906 ∧ nv k_ v909) (Kd.R_keptB (HO_855000.out) hkp (fun k_ hk_ hs_ => Or.elim hs_ (fun e_ => (hk_.2.1) e_) (fun e_ => (hk_.2.2.1) e_))) (fun k_ hk_ => ⟨hk_.1.1, hk_.1.2.2.2.1, hk_.1.2.2.2.2.1, hk_.1.2.2.2.2.2, fun e_ => Or.elim (ho0.1 k_ e_.symm).1 (fun hs_ => hk_.2.1 hs_) (fun hn_ => Nat.not_le.2 hk_.2.2 hn_), fun e_ => Or.elim (ho1.1 k_ e_.symm).1 (fun hs_ => hk_.2.1 hs_) (fun hn_ => Nat.not_le.2 hk_.2.2 hn_), fun e_ => Or.elim (ho2.1 k_ e_.symm).1 (fun hs_ => hk_.2.1 hs_) (fun hn_ => Nat.not_le.2 hk_.2.2 hn_)⟩))
              have n1_ := am (Kd.R_mono (ok' := fun k_ => nw k_ Ao61 x855000_3 co61 ∧ nw k_ Ao64 t891 co64 ∧ nw k_ Ao66 t894 co66 ∧ nv k_ v898 ∧ nv k_ v903 ∧ nv k_ v906 ∧ nv k_ v909) (Kd.R_keptB (HO_855001.out) hkp (fun k_ hk_ hs_ => Or.elim hs_ (fun e_ => (hk_.2.1) e_) (fun e_ => (hk_.2.2.1) e_))) (fun k_ hk_ => ⟨hk_.1.1, hk_.1.2.2.2.1, hk_.1.2.2.2.2.1, hk_.1.2.2.2.2.2, fun e_ => Or.elim (ho0.1 k_ e_.symm).1 (fun hs_ => hk_.2.1 hs_) (fun hn_ => Nat.not_le.2 hk_.2.2 hn_), fun e_ => Or.elim (ho1.1 k_ e_.symm).1 (fun hs_ => hk_.2.1 hs_) (fun hn_ => Nat.not_le.2 hk_.2.2 hn_), fun e_ => Or.elim (ho2.1 k_ e_.symm).1 (fun hs_ => hk_.2.1 hs_) (fun hn_ => Nat.not_le.2 hk_.2.2 hn_)⟩))
              have n2_ := am (blk_kept (ub BK854.out) hkp (fun hs_ => Or.elim hs_ (fun e_ => (fun e_ => (Kd.R_ne HO_866000.out BK854.out (by decide)) e_) e_) (fun e_ => (fun e_ => (Kd.R_ne HO_866001.out BK854.out (by decide)) e_) e_)))
              have n3_ := am (blk_kept (ub BK865.out) hkp (fun hs_ => Or.elim hs_ (fun e_ => (fun e_ => (Kd.R_ne HO_866000.out BK865.out (by decide)) e_) e_) (fun e_ => (fun e_ => (Kd.R_ne HO_866001.out BK865.out (by decide)) e_) e_)))
              have n4_ := am (Kd.R_mono (ok' := fun k_ => nw k_ Ao61 x855000_3 co61 ∧ nw k_ Ao62 x855001_3 co62 ∧ nw k_ Ao66 t894 co66 ∧ nv k_ v898 ∧ nv k_ v903 ∧ nv k_ v906 ∧ nv k_ v909) (Kd.R_keptB (HO893.out) hkp (fun k_ hk_ hs_ => Or.elim hs_ (fun e_ => (hk_.2.2.1) e_) (fun e_ => (hk_.2.2.2.1) e_))) (fun k_ hk_ => ⟨hk_.1.1, hk_.1.2.1, hk_.1.2.2.2.2.1, hk_.1.2.2.2.2.2, fun e_ => Or.elim (ho0.1 k_ e_.symm).1 (fun hs_ => hk_.2.1 hs_) (fun hn_ => Nat.not_le.2 hk_.2.2 hn_), fun e_ => Or.elim (ho1.1 k_ e_.symm).1 (fun hs_ => hk_.2.1 hs_) (fun hn_ => Nat.not_le.2 hk_.2.2 hn_), fun e_ => Or.elim (ho2.1 k_ e_.symm).1 (fun hs_ => hk_.2.1 hs_) (fun hn_ => Nat.not_le.2 hk_.2.2 hn_)⟩))
              have n5_ := am (Kd.R_mono (ok' := fun k_ => nw k_ Ao61 x855000_3 co61 ∧ nw k_ Ao62 x855001_3 co62 ∧ nw k_ Ao64 t891 co64 ∧ nv k_ v898 ∧ nv k_ v903 ∧ nv k_ v906 ∧ nv k_ v909) (Kd.R_keptB (HO896.out) hkp (fun k_ hk_ hs_ => Or.elim hs_ (fun e_ => (hk_.2.2.1) e_) (fun e_ => (hk_.2.2.2.1) e_))) (fun k_ hk_ => ⟨hk_.1.1, hk_.1.2.1, hk_.1.2.2.2.2.1, hk_.1.2.2.2.2.2, fun e_ => Or.elim (ho0.1 k_ e_.symm).1 (fun hs_ => hk_.2.1 hs_) (fun hn_ => Nat.not_le.2 hk_.2.2 hn_), fun e_ => Or.elim (ho1.1 k_ e_.symm).1 (fun hs_ => hk_.2.1 hs_) (fun hn_ => Nat.not_le.2 hk_.2.2 hn_), fun e_ => Or.elim (ho2.1 k_ e_.symm).1 (fun hs_ => hk_.2.1 hs_) (fun hn_ => Nat.not_le.2 hk_.2.2 hn_)⟩))
              have n6_ := am (Kd.R_mono (ok' := fun k_ => nw k_ Ao61 x855000_3 co61 ∧ nw k_ Ao62 x855001_3 co62 ∧ nw k_ Ao64 t891 co64 ∧ nw k_ Ao66 t894 co66 ∧ nv k_ v903 ∧ nv k_ v906 ∧ nv k_ v909) (Kd.R_keptB (HO899.out) hkp (fun k_ hk_ hs_ => Or.elim hs_ (fun e_ => (hk_.2.2.1) e_) (fun e_ => (hk_.2.2.2.1) e_))) (fun k_ hk_ => ⟨hk_.1.1, hk_.1.2.1, hk_.1.2.2.2.2.1, hk_.1.2.2.2.2.2, fun e_ => Or.elim (ho0.1 k_ e_.symm).1 (fun hs_ => hk_.2.1 hs_) (fun hn_ => Nat.not_le.2 hk_.2.2 hn_), fun e_ => Or.elim (ho1.1 k_ e_.symm).1 (fun hs_ => hk_.2.1 hs_) (fun hn_ => Nat.not_le.2 hk_.2.2 hn_), fun e_ => Or.elim (ho2.1 k_ e_.symm).1 (fun hs_ => hk_.2.1 hs_) (fun hn_ => Nat.not_le.2 hk_.2.2 hn_)⟩))
              have n7_ := am (Kd.R_mono (ok' := fun k_ => nv k_ v906 ∧ nv k_ v909 ∧ nw k_ Ao61 x855000_3 co61 ∧ nw k_ Ao62 x855001_3 co62 ∧ nw k_ Ao64 t891 co64 ∧ nw k_ Ao66 t894 co66 ∧ nv k_ v898) ho0 (fun k_ hk_ => ⟨hk_.2.1, hk_.2.2, Or.elim hk_.1 (fun hs_ => Or.elim hs_ (fun hs_ => fun e_ => (((HO_855000.out).1 k_ e_.symm).2.1) hs_) (fun hs_ => fun e_ => (((HO_855000.out).1 k_ e_.symm).2.2.1) hs_)) (fun hn_ => (Kd.fresh' (Kd.R_lt (ua HO_855000.out)) k_ hn_)), Or.elim hk_.1 (fun hs_ => Or.elim hs_ (fun hs_ => fun e_ => (((HO_855001.out).1 k_ e_.symm).2.1) hs_) (fun hs_ => fun e_ => (((HO_855001.out).1 k_ e_.symm).2.2.1) hs_)) (fun hn_ => (Kd.fresh' (Kd.R_lt (ua HO_855001.out)) k_ hn_)), Or.elim hk_.1 (fun hs_ => Or.elim hs_ (fun hs_ => fun e_ => (((HO893.out).1 k_ e_.symm).2.2.1) hs_) (fun hs_ => fun e_ => (((HO893.out).1 k_ e_.symm).2.2.2.1) hs_)) (fun hn_ => (Kd.fresh' (Kd.R_lt (ua HO893.out)) k_ hn_)), Or.elim hk_.1 (fun hs_ => Or.elim hs_ (fun hs_ => fun e_ => (((HO896.out).1 k_ e_.symm).2.2.1) hs_) (fun hs_ => fun e_ => (((HO896.out).1 k_ e_.symm).2.2.2.1) hs_)) (fun hn_ => (Kd.fresh' (Kd.R_lt (ua HO896.out)) k_ hn_)), Or.elim hk_.1 (fun hs_ => Or.elim hs_ (fun hs_ => fun e_ => (((HO899.out).1 k_ e_.symm).2.2.1) hs_) (fun hs_ => fun e_ => (((HO899.out).1 k_ e_.symm).2.2.2.1) hs_)) (fun hn_ => (Kd.fresh' (Kd.R_lt (ua HO899.out)) k_ hn_))⟩))
              have n8_ := am (Kd.R_mono (ok' := fun k_ => nv k_ v903 ∧ nv k_ v909 ∧ nw k_ Ao61 x855000_3 co61 ∧ nw k_ Ao62 x855001_3 co62 ∧ nw k_ Ao64 t891 co64 ∧ nw k_ Ao66 t894 co66 ∧ nv k_ v898) ho1 (fun k_ hk_ => ⟨hk_.2.1, hk_.2.2, Or.elim hk_.1 (fun hs_ => Or.elim hs_ (fun hs_ => fun e_ => (((HO_855000.out).1 k_ e_.symm).2.1) hs_) (fun hs_ => fun e_ => (((HO_855000.out).1 k_ e_.symm).2.2.1) hs_)) (fun hn_ => (Kd.fresh' (Kd.R_lt (ua HO_855000.out)) k_ hn_)), Or.elim hk_.1 (fun hs_ => Or.elim hs_ (fun hs_ => fun e_ => (((HO_855001.out).1 k_ e_.symm).2.1) hs_) (fun hs_ => fun e_ => (((HO_855001.out).1 k_ e_.symm).2.2.1) hs_)) (fun hn_ => (Kd.fresh' (Kd.R_lt (ua HO_855001.out)) k_ hn_)), Or.elim hk_.1 (fun hs_ => Or.elim hs_ (fun hs_ => fun e_ => (((HO893.out).1 k_ e_.symm).2.2.1) hs_) (fun hs_ => fun e_ => (((HO893.out).1 k_ e_.symm).2.2.2.1) hs_)) (fun hn_ => (Kd.fresh' (Kd.R_lt (ua HO893.out)) k_ hn_)), Or.elim hk_.1 (fun hs_ => Or.elim hs_ (fun hs_ => fun e_ => (((HO896.out).1 k_ e_.symm).2.2.1) hs_) (fun hs_ => fun e_ => (((HO896.out).1 k_ e_.symm).2.2.2.1) hs_)) (fun hn_ => (Kd.fresh' (Kd.R_lt (ua HO896.out)) k_ hn_)), Or.elim hk_.1 (fun hs_ => Or.elim hs_ (fun hs_ => fun e_ => (((HO899.out).1 k_ e_.symm).2.2.1) hs_) (fun hs_ => fun e_ => (((HO899.out).1 k_ e_.symm).2.2.2.1) hs_)) (fun hn_ => (Kd.fresh' (Kd.R_lt (ua HO899.out)) k_ hn_))⟩))
              have n9_ := am (Kd.R_mono (ok' := fun k_ => nv k_ v903 ∧ nv k_ v906 ∧ nw k_ Ao61 x855000_3 co61 ∧ nw k_ Ao62 x855001_3 co62 ∧ nw k_ Ao64 t891 co64 ∧ nw k_ Ao66 t894 co66 ∧ nv k_ v898) ho2 (fun k_ hk_ => ⟨hk_.2.1, hk_.2.2, Or.elim hk_.1 (fun hs_ => Or.elim hs_ (fun hs_ => fun e_ => (((HO_855000.out).1 k_ e_.symm).2.1) hs_) (fun hs_ => fun e_ => (((HO_855000.out).1 k_ e_.symm).2.2.1) hs_)) (fun hn_ => (Kd.fresh' (Kd.R_lt (ua HO_855000.out)) k_ hn_)), Or.elim hk_.1 (fun hs_ => Or.elim hs_ (fun hs_ => fun e_ => (((HO_855001.out).1 k_ e_.symm).2.1) hs_) (fun hs_ => fun e_ => (((HO_855001.out).1 k_ e_.symm).2.2.1) hs_)) (fun hn_ => (Kd.fresh' (Kd.R_lt (ua HO_855001.out)) k_ hn_)), Or.elim hk_.1 (fun hs_ => Or.elim hs_ (fun hs_ => fun e_ => (((HO893.out).1 k_ e_.symm).2.2.1) hs_) (fun hs_ => fun e_ => (((HO893.out).1 k_ e_.symm).2.2.2.1) hs_)) (fun hn_ => (Kd.fresh' (Kd.R_lt (ua HO893.out)) k_ hn_)), Or.elim hk_.1 (fun hs_ => Or.elim hs_ (fun hs_ => fun e_ => (((HO896.out).1 k_ e_.symm).2.2.1) hs_) (fun hs_ => fun e_ => (((HO896.out).1 k_ e_.symm).2.2.2.1) hs_)) (fun hn_ => (Kd.fresh' (Kd.R_lt (ua HO896.out)) k_ hn_)), Or.elim hk_.1 (fun hs_ => Or.elim hs_ (fun hs_ => fun e_ => (((HO899.out).1 k_ e_.symm).2.2.1) hs_) (fun hs_ => fun e_ => (((HO899.out).1 k_ e_.symm).2.2.2.1) hs_)) (fun hn_ => (Kd.fresh' (Kd.R_lt (ua HO899.out)) k_ hn_))⟩))
              have n10_ := am (hb)
              revert n0_ n1_ n2_ n3_ n4_ n5_ n6_ n7_ n8_ n9_ n10_
              clear HO_855000 HO_855001 BK854 BK865 HO893 HO896 HO899 HB HO_866000 HO_866001
              intro HO_855000 HO_855001 BK854 BK865 HO893 HO896 HO899 HO904 HO907 HO910 HB
              (try clear hb)
              (try clear hkp)
              (try clear ho0)
              (try clear ho1)
              (try clear ho2)
              obtain ⟨Ao73, co73, eo73⟩ := Kd.R_slice HO904.out
              (first | subst eo73 | (injection eo73 with f1_ f2_ f3_; have f4_ := f1_.symm; have f5_ := f3_.symm; clear f1_ f2_ f3_; subst f4_; subst f5_))
              obtain ⟨Ao75, co75, eo75⟩ := Kd.R_slice HO907.out
              (first | subst eo75 | (injection eo75 with f1_ f2_ f3_; have f4_ := f1_.symm; have f5_ := f3_.symm; clear f1_ f2_ f3_; subst f4_; subst f5_))
              refine hK.out _ _ ⟨(blk_cell BK865.out 0).trans rfl, (blk_cell BK865.out 1).trans rfl, (bcel HB hw901_0), (bcel HB hw901_1)⟩ (fun hHeld => ?_)
              clear hK K
              refine norm_ (a' := ?_) ?_ ?_
              rotate_left
              ·show Act.put _ (some 114) _ = _
               simp only [Act.put, List.setIfInBounds_toArray, List.set_cons_zero, List.set_cons_succ, i64_w, i32_w]
               rfl
              refine pv 8 106 (bA 15 511) HT_ ?_
              refine pv 9 115 (bA 15 1023) HT_ ?_
              refine pv 10 116 (bA 15 2047) HT_ ?_
              refine pv 11 117 (bA 15 4095) HT_ ?_
              refine last_ (i := 12) (N := none) #[true, true, true, true, true, true, true, true, true, true, true, true, true, false, false] rfl rfl (one_of HT_.out (by kernel_rfl)) (by decide) (fun K hK => ?_)
              have hs74 : w72.cell? ⟨gb865, 0, none⟩ = some (.slice Ao70 x866000_3.length co70) := (blk_cell BK865.out 0).trans rfl
              have hfs74 := blk_frozen BK865.out 0
              have hns74_0 := NB854_865.out
              have hms74_0 := NB865_854.out
              have hs76 : w72.cell? ⟨gb865, 1, none⟩ = some (.slice Ao71 x866001_3.length co71) := (blk_cell BK865.out 1).trans rfl
              have hfs76 := blk_frozen BK865.out 1
              have hns76_0 := NB854_865.out
              have hms76_0 := NB865_854.out
              refine skip_ (w1 := ?_) (by rfl) rfl ?_ ?_
              rotate_left
              ·go_simp
               rfl
              refine hK.out _ _ ?_
              clear hK K
              refine pv 13 16 (bA 15 16383) HT_ ?_
              refine pv 14 13 (bA 15 32767) HT_ ?_
              refine done_ (done_of HT_.out (by kernel_rfl)) ?_
              try go_wp2
              go_meet
              case rel => exact ⟨_, (t900), (t911), (t897), (t908), (t891), (t894), (t902), (t905), (.slice Ao64 t891.length co64), (.slice Ao66 t894.length co66), (.slice Ao73 t902.length co73), (.slice Ao75 t905.length co75), uf, uf, (by first | exact H' | (rw [← Nbq37.out]; exact H')), ⟨by have := HJ5.out; have := HJ11.out; have := HK3.out; first | omega | exact Nat.le_refl _⟩, ⟨by (with_reducible repeat (first | apply Kd.R_alloc | apply Kd.R_drewN | apply Kd.R_drew)); exact Kd.R_mono (Kd.R_far (p := ⟨gb865, 1, none⟩) (Kd.R_far (p := ⟨gb865, 0, none⟩) (Kd.R_types HO899.out BK865.out (by decide)) (fun _ hk => hk.2) (.slice Ao73 t902.length co73)) (fun _ hk => hk.2) (.slice Ao75 t905.length co75)) (fun _ hk => ⟨hk.1.2.2.2.2.2.2, ⟨hk.1.2.2.1, ⟨hk.1.2.2.2.1, ⟨hk.1.2.2.2.2.1, hk.1.2.2.2.2.2.1⟩⟩⟩⟩)⟩, ⟨by (with_reducible repeat (first | apply Kd.R_alloc | apply Kd.R_drewN | apply Kd.R_drew)); exact Kd.R_mono (Kd.R_far (p := ⟨gb865, 1, none⟩) (Kd.R_far (p := ⟨gb865, 0, none⟩) (Kd.R_types HO910.out BK865.out (by decide)) (fun _ hk => hk.2) (.slice Ao73 t902.length co73)) (fun _ hk => hk.2) (.slice Ao75 t905.length co75)) (fun _ hk => ⟨hk.1.2.2.2.2.2.2, ⟨hk.1.2.2.2.2.1, ⟨hk.1.2.2.2.2.2.1, ⟨hk.1.1, hk.1.2.1⟩⟩⟩⟩)⟩, ⟨by (with_reducible repeat (first | apply Kd.R_alloc | apply Kd.R_drewN | apply Kd.R_drew)); exact Kd.R_mono (Kd.R_far (p := ⟨gb865, 1, none⟩) (Kd.R_far (p := ⟨gb865, 0, none⟩) (Kd.R_types HO893.out BK865.out (by decide)) (fun _ hk => hk.2) (.slice Ao73 t902.length co73)) (fun _ hk => hk.2) (.slice Ao75 t905.length co75)) (fun _ hk => ⟨hk.1.2.2.2.1, ⟨hk.1.2.2.2.2.2.2, ⟨hk.1.2.2.1, ⟨hk.1.2.2.2.2.1, hk.1.2.2.2.2.2.1⟩⟩⟩⟩)⟩, ⟨by (with_reducible repeat (first | apply Kd.R_alloc | apply Kd.R_drewN | apply Kd.R_drew)); exact Kd.R_mono (Kd.R_far (p := ⟨gb865, 1, none⟩) (Kd.R_far (p := ⟨gb865, 0, none⟩) (Kd.R_types HO896.out BK865.out (by decide)) (fun _ hk => hk.2) (.slice Ao73 t902.length co73)) (fun _ hk => hk.2) (.slice Ao75 t905.length co75)) (fun _ hk => ⟨hk.1.2.2.2.1, ⟨hk.1.2.2.2.2.2.2, ⟨hk.1.2.2.1, ⟨hk.1.2.2.2.2.1, hk.1.2.2.2.2.2.1⟩⟩⟩⟩)⟩, ⟨by (with_reducible repeat (first | apply Kd.R_alloc | apply Kd.R_drewN | apply Kd.R_drew)); exact Kd.R_mono (Kd.R_far (p := ⟨gb865, 1, none⟩) (Kd.R_far (p := ⟨gb865, 0, none⟩) (Kd.R_types HO904.out BK865.out (by decide)) (fun _ hk => hk.2) (.slice Ao73 t902.length co73)) (fun _ hk => hk.2) (.slice Ao75 t905.length co75)) (fun _ hk => ⟨hk.1.2.2.2.2.2.2, ⟨hk.1.2.1, ⟨hk.1.2.2.2.2.1, ⟨hk.1.2.2.2.2.2.1, hk.1.1⟩⟩⟩⟩)⟩, ⟨by (with_reducible repeat (first | apply Kd.R_alloc | apply Kd.R_drewN | apply Kd.R_drew)); exact Kd.R_mono (Kd.R_far (p := ⟨gb865, 1, none⟩) (Kd.R_far (p := ⟨gb865, 0, none⟩) (Kd.R_types HO907.out BK865.out (by decide)) (fun _ hk => hk.2) (.slice Ao73 t902.length co73)) (fun _ hk => hk.2) (.slice Ao75 t905.length co75)) (fun _ hk => ⟨hk.1.2.2.2.2.2.2, ⟨hk.1.2.1, ⟨hk.1.2.2.2.2.1, ⟨hk.1.2.2.2.2.2.1, hk.1.1⟩⟩⟩⟩)⟩, ⟨by (iterate 2 ((with_reducible repeat (first | refine blk_drewN ?_ _ | refine blk_drew ?_ | refine blk_alloc ?_ _)); refine blk_far ?_ NB854_865.out _)); (with_reducible repeat (first | refine blk_drewN ?_ _ | refine blk_drew ?_ | refine blk_alloc ?_ _)); first | exact BK854.out | (rw [← Nbq37.out]; exact BK854.out)⟩, ⟨by (with_reducible repeat (first | refine blk_drewN ?_ _ | refine blk_drew ?_ | refine blk_alloc ?_ _)); refine blk_put (cs := #[.slice Ao73 t902.length co73, .slice Ao71 x866001_3.length co71]) ?_ 1 _ rfl; (with_reducible repeat (first | refine blk_drewN ?_ _ | refine blk_drew ?_ | refine blk_alloc ?_ _)); refine blk_put (cs := #[.slice Ao70 x866000_3.length co70, .slice Ao71 x866001_3.length co71]) ?_ 0 _ rfl; (with_reducible repeat (first | refine blk_drewN ?_ _ | refine blk_drew ?_ | refine blk_alloc ?_ _)); first | exact BK865.out | (rw [← Nbq37.out]; exact BK865.out)⟩, ⟨uc HB.out⟩⟩
            case rest =>
             clear HC36
             try clear c1
             try clear c2
             try clear p2
             try clear c3
             try clear q3
             try clear p8
             try clear q8
             try clear hx8
             try clear p9
             try clear q9
             try clear hx9
             try clear c17
             try clear c25
             try clear q37
             try clear c38
             try clear hx890_0
             try clear hx890_1
             try clear hx901_0
             try clear hx901_1
             try clear p890
             try clear p901
             try clear q890
             try clear q901
             obtain ⟨kq, x10_35, x13_35, x15_35, x16_35, x855000_35, x855001_35, x866000_35, x866001_35, u855000, u855001, u866000, u866001, rfl, rfl, HA, HJ35, HO_15, HO_16, HO_855000, HO_855001, HO_866000, HO_866001, BK854, BK865, HB⟩ := hcut
             cases kq with
             | zero => exact absurd HA.out (by simp [curtilagelaw21_DlPlays.j3])
             | succ kj35 =>
              have H := HA.out
              clear HA
              simp only [curtilagelaw21_DlPlays.j3] at H
              by_cases c77 : x10_35 = x13_35
              ·rw [if_pos c77] at H
               have c77b0 : (x10_35 == x13_35) = true := beq_iff_eq.mpr c77
               have c77b1 : (x10_35 != x13_35) = false := bne_eq_false_iff_eq.mpr c77
               clear c77
               replace H := Option.bind_eq_some_iff.mp H
               obtain ⟨t912, A780, H⟩ := H
               replace H : (if t912 = true then ((curtilageref10_Numbers.f kj35 x15_35 x16_35).bind fun t913 => (if t913 = true then (curtilagelaw21_DlPlays.l0 kj35 l0 l2 t845 (wrap64 (x14_3 + 1)) x855000_35 x855001_35 x866000_35 x866001_35) else (some false))) else (some false)) = some r := H
               have A78 := am A780
               clear A780
               by_cases c79 : t912 = true
               ·subst c79
                have H1 : ((curtilageref10_Numbers.f kj35 x15_35 x16_35).bind fun t913 => (if t913 = true then (curtilagelaw21_DlPlays.l0 kj35 l0 l2 t845 (wrap64 (x14_3 + 1)) x855000_35 x855001_35 x866000_35 x866001_35) else (some false))) = some r := by rw [if_pos rfl] at H; exact H
                clear H
                have H := H1
                clear H1
                replace H := Option.bind_eq_some_iff.mp H
                obtain ⟨t913, A800, H⟩ := H
                replace H : (if t913 = true then (curtilagelaw21_DlPlays.l0 kj35 l0 l2 t845 (wrap64 (x14_3 + 1)) x855000_35 x855001_35 x866000_35 x866001_35) else (some false)) = some r := H
                have A80 := am A800
                clear A800
                by_cases c81 : t913 = true
                ·subst c81
                 have H1 : (curtilagelaw21_DlPlays.l0 kj35 l0 l2 t845 (wrap64 (x14_3 + 1)) x855000_35 x855001_35 x866000_35 x866001_35) = some r := by rw [if_pos rfl] at H; exact H
                 clear H
                 have H := H1
                 clear H1
                 have H' := am H
                 clear H
                 have hnb82 := NB854_865.out
                 have hnc82 := NB865_854.out
                 have hcz83_0 : wc.cell? ⟨gb854, 0, none⟩ = some (u855000) := (blk_cell BK854.out 0).trans rfl
                 have hcz83_1 : wc.cell? ⟨gb854, 1, none⟩ = some (u855001) := (blk_cell BK854.out 1).trans rfl
                 have hfz83_0 := blk_frozen BK854.out 0
                 have hfz83_1 := blk_frozen BK854.out 1
                 have hcz84_0 : wc.cell? ⟨gb865, 0, none⟩ = some (u866000) := (blk_cell BK865.out 0).trans rfl
                 have hcz84_1 : wc.cell? ⟨gb865, 1, none⟩ = some (u866001) := (blk_cell BK865.out 1).trans rfl
                 have hfz84_0 := blk_frozen BK865.out 0
                 have hfz84_1 := blk_frozen BK865.out 1
                 obtain ⟨Ao85, co85, eo85⟩ := Kd.R_slice HO_855000.out
                 subst eo85
                 obtain ⟨Ao86, co86, eo86⟩ := Kd.R_slice HO_855001.out
                 subst eo86
                 obtain ⟨Ao87, co87, eo87⟩ := Kd.R_slice HO_866000.out
                 subst eo87
                 obtain ⟨Ao88, co88, eo88⟩ := Kd.R_slice HO_866001.out
                 subst eo88
                 go_wp2_with (first | (go_at_call 24; (with_reducible refine (curtilagelaw21_same.calls kj35 _ _ x855000_35 _ _ x855001_35 _ _ x866000_35 _ _ x866001_35 true _ ?side1 ?side2 ?side3 ?side4 ?side5 ?side6 ?side7 ?side8 A78.out).mono ?_); (case side1 => exact us (Kd.R_reads' HO_855000.out).2.2); (case side2 => exact (Kd.R_reads' HO_855000.out).2.1); (case side3 => exact us (Kd.R_reads' HO_855001.out).2.2); (case side4 => exact (Kd.R_reads' HO_855001.out).2.1); (case side5 => exact us (Kd.R_reads' HO_866000.out).2.2); (case side6 => exact (Kd.R_reads' HO_866000.out).2.1); (case side7 => exact us (Kd.R_reads' HO_866001.out).2.2); (case side8 => exact (Kd.R_reads' HO_866001.out).2.1); rintro e w89 ⟨rfl, hb⟩; have n0_ := am (Kd.R_below (ua HO_15.out) hb); have n1_ := am (Kd.R_below (ua HO_16.out) hb); have n2_ := am (Kd.R_below (ua HO_855000.out) hb); have n3_ := am (Kd.R_below (ua HO_855001.out) hb); have n4_ := am (Kd.R_below (ua HO_866000.out) hb); have n5_ := am (Kd.R_below (ua HO_866001.out) hb); have n6_ := am (blk_below (g := gb854) (o := .cells #[.slice Ao85 x855000_35.length co85, .slice Ao86 x855001_35.length co86] 28 (0, 0)) (ub BK854.out) hb); have n7_ := am (blk_below (g := gb865) (o := .cells #[.slice Ao87 x866000_35.length co87, .slice Ao88 x866001_35.length co88] 53 (0, 0)) (ub BK865.out) hb); have n8_ := am (below_step (uc HB.out) hb); revert n0_ n1_ n2_ n3_ n4_ n5_ n6_ n7_ n8_; clear HO_15 HO_16 HO_855000 HO_855001 HO_866000 HO_866001 BK854 BK865 HB; intro HO_15 HO_16 HO_855000 HO_855001 HO_866000 HO_866001 BK854 BK865 HB; (try clear hb); (try clear hb2); (try clear hk); (try clear hi); obtain ⟨Ao90, co90, eo90⟩ := Kd.R_slice HO_15.out; subst eo90; obtain ⟨Ao91, co91, eo91⟩ := Kd.R_slice HO_16.out; subst eo91) | (go_at_call 16; (with_reducible refine (curtilageref10_Numbers.calls kj35 _ _ x15_35 _ _ x16_35 true _ ?side1 ?side2 ?side3 ?side4 A80.out).mono ?_); (case side1 => exact us (Kd.R_reads' HO_15.out).2.2); (case side2 => exact (Kd.R_reads' HO_15.out).2.1); (case side3 => exact us (Kd.R_reads' HO_16.out).2.2); (case side4 => exact (Kd.R_reads' HO_16.out).2.1); rintro e w' ⟨rfl, ⟨nd, rfl⟩⟩))
                 go_roundg kj35
                 case measure => have := HJ5.out; have := HJ11.out; have := HK3.out; have := HJ35.out; omega
                 case rel => exact ⟨(wrap64 (x14_3 + 1)), (x855000_35), (x855001_35), (x866000_35), (x866001_35), (.slice Ao85 x855000_35.length co85), (.slice Ao86 x855001_35.length co86), (.slice Ao87 x866000_35.length co87), (.slice Ao88 x866001_35.length co88), uf, (by first | exact H' | (rw [← Nbq37.out]; exact H')), ⟨by have := HJ5.out; have := HJ11.out; have := HK3.out; have := HJ35.out; omega⟩, ⟨by (with_reducible repeat (first | apply Kd.R_alloc | apply Kd.R_drewN | apply Kd.R_drew)); exact Kd.R_mono HO_855000.out (fun _ hk => ⟨hk.2.2.1, ⟨hk.2.2.2.1, hk.2.2.2.2⟩⟩)⟩, ⟨by (with_reducible repeat (first | apply Kd.R_alloc | apply Kd.R_drewN | apply Kd.R_drew)); exact Kd.R_mono HO_855001.out (fun _ hk => ⟨hk.2.2.1, ⟨hk.2.2.2.1, hk.2.2.2.2⟩⟩)⟩, ⟨by (with_reducible repeat (first | apply Kd.R_alloc | apply Kd.R_drewN | apply Kd.R_drew)); exact Kd.R_mono HO_866000.out (fun _ hk => ⟨hk.2.2.1, ⟨hk.2.2.2.1, hk.2.2.2.2⟩⟩)⟩, ⟨by (with_reducible repeat (first | apply Kd.R_alloc | apply Kd.R_drewN | apply Kd.R_drew)); exact Kd.R_mono HO_866001.out (fun _ hk => ⟨hk.2.2.1, ⟨hk.2.2.2.1, hk.2.2.2.2⟩⟩)⟩, ⟨by (with_reducible repeat (first | refine blk_drewN ?_ _ | refine blk_drew ?_ | refine blk_alloc ?_ _)); first | exact BK854.out | (rw [← Nbq37.out]; exact BK854.out)⟩, ⟨by (with_reducible repeat (first | refine blk_drewN ?_ _ | refine blk_drew ?_ | refine blk_alloc ?_ _)); first | exact BK865.out | (rw [← Nbq37.out]; exact BK865.out)⟩, ⟨uc HB.out⟩⟩
                ·replace c81 := Bool.eq_false_iff.mpr c81
                 subst c81
                 have H1 : (some false) = some r := by rw [if_neg (show ¬ (false = true) by decide)] at H; exact H
                 clear H
                 have H := H1
                 clear H1
                 exact absurd ((Option.some.inj H).trans HT.out) (by decide)
               ·replace c79 := Bool.eq_false_iff.mpr c79
                subst c79
                have H1 : (some false) = some r := by rw [if_neg (show ¬ (false = true) by decide)] at H; exact H
                clear H
                have H := H1
                clear H1
                exact absurd ((Option.some.inj H).trans HT.out) (by decide)
              ·rw [if_neg c77] at H
               have c77b0 : (x10_35 == x13_35) = false := beq_eq_false_iff_ne.mpr c77
               have c77b1 : (x10_35 != x13_35) = true := bne_iff_ne.mpr c77
               exact absurd ((Option.some.inj H).trans HT.out) (by decide)
           ·rw [if_neg c35] at H
            exact absurd H (by simp)
          ·rw [if_neg c34] at H
           have c34b0 : decide (x14_3 < (l2.length : Int)) = false := decide_eq_false c34
           clear c34
           replace H := Option.bind_eq_some_iff.mp H
           obtain ⟨t914, A1100, H⟩ := H
           replace H : (curtilagelaw21_DlPlays.l1 k3 l0 t845 t914 0 x855000_3 x855001_3 x866000_3 x866001_3) = some r := H
           have A110 := am A1100
           clear A1100
           have H' := am H
           clear H
           have hnb111 := NB854_865.out
           have hnc111 := NB865_854.out
           have hcz112_0 : wr.cell? ⟨gb854, 0, none⟩ = some (u855000) := (blk_cell BK854.out 0).trans rfl
           have hcz112_1 : wr.cell? ⟨gb854, 1, none⟩ = some (u855001) := (blk_cell BK854.out 1).trans rfl
           have hfz112_0 := blk_frozen BK854.out 0
           have hfz112_1 := blk_frozen BK854.out 1
           obtain ⟨Ao113, co113, eo113⟩ := Kd.R_slice HO_855000.out
           subst eo113
           obtain ⟨Ao114, co114, eo114⟩ := Kd.R_slice HO_855001.out
           subst eo114
           go_wp2_with (first | ((with_reducible refine gate_dst (N := 135) rfl ?_); (with_reducible refine gate_callee (f := 26) rfl ?_); refine gl (some 135) Try.func26 #[.slice A0 l0.length c0, .agg #[.slice Ao113 x855000_3.length co113, .slice Ao114 x855001_3.length co114]] ?_; (with_reducible refine (dl_Scope.calls k3 _ _ l0 _ _ x855000_3 _ _ x855001_3 t914 _ ?side1 ?side2 ?side3 ?side4 ?side5 ?side6 A110.out).mono ?_); (case side1 => exact us (Kd.C_below HR0.out HB.out)); (case side2 => exact HC0.out); (case side3 => exact us (Kd.R_reads' HO_855000.out).2.2); (case side4 => exact (Kd.R_reads' HO_855000.out).2.1); (case side5 => exact us (Kd.R_reads' HO_855001.out).2.2); (case side6 => exact (Kd.R_reads' HO_855001.out).2.1); rintro e w115 ⟨v915, rfl, ho0, hb⟩; refine ⟨_, rfl, ?_⟩; have n0_ := am (Kd.R_elder' (ua HO_855000.out) (Kd.R_base ho0) hb); have n1_ := am (Kd.R_elder' (ua HO_855001.out) (Kd.R_base ho0) hb); have n2_ := am (Kd.R_elder' (ua HO_866000.out) (Kd.R_base ho0) hb); have n3_ := am (Kd.R_elder' (ua HO_866001.out) (Kd.R_base ho0) hb); have n4_ := am (Kd.R_lower (Kd.R_new' (Kd.R_new' (Kd.R_new' (Kd.R_new' ho0 (Kd.R_lt (ua HO_855000.out))) (Kd.R_lt (ua HO_855001.out))) (Kd.R_lt (ua HO_866000.out))) (Kd.R_lt (ua HO_866001.out))) (below_size (uc HB.out))); have n5_ := am (blk_below (g := gb854) (o := .cells #[.slice Ao113 x855000_3.length co113, .slice Ao114 x855001_3.length co114] 28 (0, 0)) (ub BK854.out) hb); have n6_ := am (blk_below (g := gb865) (o := .cells #[u866000, u866001] 53 (0, 0)) (ub BK865.out) hb); have n7_ := am (below_step (uc HB.out) hb); revert n0_ n1_ n2_ n3_ n4_ n5_ n6_ n7_; clear HO_855000 HO_855001 HO_866000 HO_866001 BK854 BK865 HB; intro HO_855000 HO_855001 HO_866000 HO_866001 HO916 BK854 BK865 HB; (try clear hb); (try clear hb2); (try clear hk); (try clear hi); (try clear ho0)))
           go_loopg [18] k3 (fun kq v18 w' => ∃ (x18_4 : Int), v18 = .int .i64 x18_4 ∧ Aside0 (curtilagelaw21_DlPlays.l1 kq l0 t845 t914 x18_4 x855000_3 x855001_3 x866000_3 x866001_3 = some r) ∧ Aside0 (kq ≤ k3) ∧ Aside0 (Kd.R (Kd.int .i64) 3 w' w.heap.size (fun k_ => some k_ ≠ ((.slice Ao113 x855000_3.length co113) : Value).ownBlock ∧ some k_ ≠ ((.slice Ao114 x855001_3.length co114) : Value).ownBlock ∧ nv k_ u866000 ∧ nv k_ u866001) v915 t914) ∧ Aside0 (Kd.R (Kd.int .i64) 3 w' w.heap.size (fun k_ => nv k_ v915 ∧ some k_ ≠ ((.slice Ao114 x855001_3.length co114) : Value).ownBlock ∧ nv k_ u866000 ∧ nv k_ u866001) (.slice Ao113 x855000_3.length co113) x855000_3) ∧ Aside0 (Kd.R (Kd.int .i64) 3 w' w.heap.size (fun k_ => nv k_ v915 ∧ some k_ ≠ ((.slice Ao113 x855000_3.length co113) : Value).ownBlock ∧ nv k_ u866000 ∧ nv k_ u866001) (.slice Ao114 x855001_3.length co114) x855001_3) ∧ Aside0 (Kd.R (Kd.int .i64) 3 w' w.heap.size (fun k_ => nv k_ v915 ∧ some k_ ≠ ((.slice Ao113 x855000_3.length co113) : Value).ownBlock ∧ some k_ ≠ ((.slice Ao114 x855001_3.length co114) : Value).ownBlock ∧ nv k_ u866001) u866000 x866000_3) ∧ Aside0 (Kd.R (Kd.int .i64) 3 w' w.heap.size (fun k_ => nv k_ v915 ∧ some k_ ≠ ((.slice Ao113 x855000_3.length co113) : Value).ownBlock ∧ some k_ ≠ ((.slice Ao114 x855001_3.length co114) : Value).ownBlock ∧ nv k_ u866000) u866001 x866001_3) ∧ Aside0 (w'.heap[gb854]? = some (.cells #[(.slice Ao113 x855000_3.length co113), (.slice Ao114 x855001_3.length co114)] 28 (0, 0))) ∧ Aside0 (w'.heap[gb865]? = some (.cells #[u866000, u866001] 53 (0, 0))) ∧ Aside0 (Below w.heap.size w w'))
           case atStart => exact ⟨(0), uf, H', ⟨Nat.le_refl _⟩, ⟨by (with_reducible repeat (first | apply Kd.R_alloc | apply Kd.R_drewN | apply Kd.R_drew)); exact Kd.R_mono HO916.out (fun _ hk => ⟨hk.1.1.1.2, ⟨hk.1.1.2, ⟨hk.1.2, hk.2⟩⟩⟩)⟩, ⟨by (with_reducible repeat (first | apply Kd.R_alloc | apply Kd.R_drewN | apply Kd.R_drew)); exact Kd.R_mono HO_855000.out (fun _ hk => ⟨hk.2, ⟨hk.1.1, ⟨hk.1.2.1, hk.1.2.2⟩⟩⟩)⟩, ⟨by (with_reducible repeat (first | apply Kd.R_alloc | apply Kd.R_drewN | apply Kd.R_drew)); exact Kd.R_mono HO_855001.out (fun _ hk => ⟨hk.2, ⟨hk.1.1, ⟨hk.1.2.1, hk.1.2.2⟩⟩⟩)⟩, ⟨by (with_reducible repeat (first | apply Kd.R_alloc | apply Kd.R_drewN | apply Kd.R_drew)); exact Kd.R_mono HO_866000.out (fun _ hk => ⟨hk.2, ⟨hk.1.1, ⟨hk.1.2.1, hk.1.2.2⟩⟩⟩)⟩, ⟨by (with_reducible repeat (first | apply Kd.R_alloc | apply Kd.R_drewN | apply Kd.R_drew)); exact Kd.R_mono HO_866001.out (fun _ hk => ⟨hk.2, ⟨hk.1.1, ⟨hk.1.2.1, hk.1.2.2⟩⟩⟩)⟩, ⟨ub BK854.out⟩, ⟨ub BK865.out⟩, ⟨uc HB.out⟩⟩
           case round =>
            clear H'
            try clear c1
            try clear c2
            try clear p2
            try clear c3
            try clear q3
            try clear p6
            try clear c7
            try clear c8
            try clear p8
            try clear q8
            try clear hx8
            try clear c9
            try clear p9
            try clear q9
            try clear hx9
            try clear c10
            try clear c11
            try clear c17
            try clear c25
            try clear c26
            try clear c34
            try clear c34b0
            try clear c35
            try clear q37
            try clear c38
            try clear p64
            try clear c77
            try clear c77b0
            try clear c77b1
            try clear c79
            try clear c81
            try clear c82
            try clear p89
            try clear q89
            try clear hx89
            try clear p90
            try clear q90
            try clear hx90
            try clear c92
            try clear c102
            try clear c111
            try clear hcz103_0
            try clear hcz103_1
            try clear hcz104_0
            try clear hcz104_1
            try clear hcz112_0
            try clear hcz112_1
            try clear hcz83_0
            try clear hcz83_1
            try clear hcz84_0
            try clear hcz84_1
            try clear hcz93_0
            try clear hcz93_1
            try clear hcz94_0
            try clear hcz94_1
            try clear hfz103_0
            try clear hfz103_1
            try clear hfz104_0
            try clear hfz104_1
            try clear hfz112_0
            try clear hfz112_1
            try clear hfz83_0
            try clear hfz83_1
            try clear hfz84_0
            try clear hfz84_1
            try clear hfz93_0
            try clear hfz93_1
            try clear hfz94_0
            try clear hfz94_1
            try clear hx890_0
            try clear hx890_1
            try clear hx901_0
            try clear hx901_1
            try clear p2
            try clear p8
            try clear p890
            try clear p9
            try clear p901
            try clear q3
            try clear q37
            try clear q8
            try clear q890
            try clear q9
            try clear q901
            obtain ⟨x18_4, rfl, HA, HK4, HO_17, HO_855000, HO_855001, HO_866000, HO_866001, BK854, BK865, HB⟩ := hrel
            cases gk with
            | zero => exact absurd HA.out (by simp [curtilagelaw21_DlPlays.l1])
            | succ k4 =>
             have H := HA.out
             clear HA
             simp only [curtilagelaw21_DlPlays.l1] at H
             by_cases c116 : x18_4 < (l0.length : Int)
             ·rw [if_pos c116] at H
              have c116b0 : decide (x18_4 < (l0.length : Int)) = true := decide_eq_true c116
              clear c116
              replace H := Option.bind_eq_some_iff.mp H
              obtain ⟨t921, A1170, H⟩ := H
              replace H : (curtilagelaw21_DlPlays.l2 k4 l0 t845 t914 x18_4 t921 0 0 x855000_3 x855001_3 x866000_3 x866001_3) = some r := H
              have A117 := am A1170
              clear A1170
              have H' := am H
              clear H
              have hnb118 := NB854_865.out
              have hnc118 := NB865_854.out
              have hcz119_0 : wr.cell? ⟨gb854, 0, none⟩ = some (.slice Ao113 x855000_3.length co113) := (blk_cell BK854.out 0).trans rfl
              have hcz119_1 : wr.cell? ⟨gb854, 1, none⟩ = some (.slice Ao114 x855001_3.length co114) := (blk_cell BK854.out 1).trans rfl
              have hfz119_0 := blk_frozen BK854.out 0
              have hfz119_1 := blk_frozen BK854.out 1
              go_wp2_with (first | ((with_reducible refine gate_dst (N := 144) rfl ?_); (with_reducible refine gate_callee (f := 22) rfl ?_); refine gl (some 144) Try.func22 #[.agg #[.slice Ao113 x855000_3.length co113, .slice Ao114 x855001_3.length co114], .int .i64 x18_4] ?_; (with_reducible refine (dl_Count.calls k4 _ _ x855000_3 _ _ x855001_3 x18_4 t921 _ ?side1 ?side2 ?side3 ?side4 A117.out).mono ?_); (case side1 => exact us (Kd.R_reads' HO_855000.out).2.2); (case side2 => exact (Kd.R_reads' HO_855000.out).2.1); (case side3 => exact us (Kd.R_reads' HO_855001.out).2.2); (case side4 => exact (Kd.R_reads' HO_855001.out).2.1); rintro e w120 ⟨rfl, hb⟩; refine ⟨_, rfl, ?_⟩; have n0_ := am (Kd.R_below (ua HO_17.out) hb); have n1_ := am (Kd.R_below (ua HO_855000.out) hb); have n2_ := am (Kd.R_below (ua HO_855001.out) hb); have n3_ := am (Kd.R_below (ua HO_866000.out) hb); have n4_ := am (Kd.R_below (ua HO_866001.out) hb); have n5_ := am (blk_below (g := gb854) (o := .cells #[.slice Ao113 x855000_3.length co113, .slice Ao114 x855001_3.length co114] 28 (0, 0)) (ub BK854.out) hb); have n6_ := am (blk_below (g := gb865) (o := .cells #[u866000, u866001] 53 (0, 0)) (ub BK865.out) hb); have n7_ := am (below_step (uc HB.out) hb); revert n0_ n1_ n2_ n3_ n4_ n5_ n6_ n7_; clear HO_17 HO_855000 HO_855001 HO_866000 HO_866001 BK854 BK865 HB; intro HO_17 HO_855000 HO_855001 HO_866000 HO_866001 BK854 BK865 HB; (try clear hb); (try clear hb2); (try clear hk); (try clear hi)))
              go_loopg [20, 21] k4 (fun kq v20 v21 w' => ∃ (x20_5 : Int) (x21_5 : Int), v20 = .int .i64 x20_5 ∧ v21 = .int .i64 x21_5 ∧ Aside0 (curtilagelaw21_DlPlays.l2 kq l0 t845 t914 x18_4 t921 x20_5 x21_5 x855000_3 x855001_3 x866000_3 x866001_3 = some r) ∧ Aside0 (kq ≤ k4) ∧ Aside0 (Kd.R (Kd.int .i64) 3 w' w.heap.size (fun k_ => some k_ ≠ ((.slice Ao113 x855000_3.length co113) : Value).ownBlock ∧ some k_ ≠ ((.slice Ao114 x855001_3.length co114) : Value).ownBlock ∧ nv k_ u866000 ∧ nv k_ u866001) v915 t914) ∧ Aside0 (Kd.R (Kd.int .i64) 3 w' w.heap.size (fun k_ => nv k_ v915 ∧ some k_ ≠ ((.slice Ao114 x855001_3.length co114) : Value).ownBlock ∧ nv k_ u866000 ∧ nv k_ u866001) (.slice Ao113 x855000_3.length co113) x855000_3) ∧ Aside0 (Kd.R (Kd.int .i64) 3 w' w.heap.size (fun k_ => nv k_ v915 ∧ some k_ ≠ ((.slice Ao113 x855000_3.length co113) : Value).ownBlock ∧ nv k_ u866000 ∧ nv k_ u866001) (.slice Ao114 x855001_3.length co114) x855001_3) ∧ Aside0 (Kd.R (Kd.int .i64) 3 w' w.heap.size (fun k_ => nv k_ v915 ∧ some k_ ≠ ((.slice Ao113 x855000_3.length co113) : Value).ownBlock ∧ some k_ ≠ ((.slice Ao114 x855001_3.length co114) : Value).ownBlock ∧ nv k_ u866001) u866000 x866000_3) ∧ Aside0 (Kd.R (Kd.int .i64) 3 w' w.heap.size (fun k_ => nv k_ v915 ∧ some k_ ≠ ((.slice Ao113 x855000_3.length co113) : Value).ownBlock ∧ some k_ ≠ ((.slice Ao114 x855001_3.length co114) : Value).ownBlock ∧ nv k_ u866000) u866001 x866001_3) ∧ Aside0 (w'.heap[gb854]? = some (.cells #[(.slice Ao113 x855000_3.length co113), (.slice Ao114 x855001_3.length co114)] 28 (0, 0))) ∧ Aside0 (w'.heap[gb865]? = some (.cells #[u866000, u866001] 53 (0, 0))) ∧ Aside0 (Below w.heap.size w w'))
              case atStart => exact ⟨(0), (0), uf, uf, H', ⟨Nat.le_refl _⟩, ⟨ua HO_17.out⟩, ⟨ua HO_855000.out⟩, ⟨ua HO_855001.out⟩, ⟨ua HO_866000.out⟩, ⟨ua HO_866001.out⟩, ⟨ub BK854.out⟩, ⟨ub BK865.out⟩, ⟨uc HB.out⟩⟩
              case round =>
               clear H'
               try clear c1
               try clear c2
               try clear p2
               try clear c3
               try clear q3
               try clear p6
               try clear c7
               try clear c8
               try clear p8
               try clear q8
               try clear hx8
               try clear c9
               try clear p9
               try clear q9
               try clear hx9
               try clear c10
               try clear c11
               try clear c17
               try clear c22
               try clear c25
               try clear c26
               try clear c34
               try clear c34b0
               try clear c35
               try clear q37
               try clear c38
               try clear p64
               try clear c77
               try clear c77b0
               try clear c77b1
               try clear c79
               try clear c81
               try clear c82
               try clear p89
               try clear q89
               try clear hx89
               try clear p90
               try clear q90
               try clear hx90
               try clear c92
               try clear c102
               try clear c111
               try clear c116
               try clear c116b0
               try clear c118
               try clear hcz103_0
               try clear hcz103_1
               try clear hcz104_0
               try clear hcz104_1
               try clear hcz112_0
               try clear hcz112_1
               try clear hcz119_0
               try clear hcz119_1
               try clear hcz83_0
               try clear hcz83_1
               try clear hcz84_0
               try clear hcz84_1
               try clear hcz93_0
               try clear hcz93_1
               try clear hcz94_0
               try clear hcz94_1
               try clear hfz103_0
               try clear hfz103_1
               try clear hfz104_0
               try clear hfz104_1
               try clear hfz112_0
               try clear hfz112_1
               try clear hfz119_0
               try clear hfz119_1
               try clear hfz83_0
               try clear hfz83_1
               try clear hfz84_0
               try clear hfz84_1
               try clear hfz93_0
               try clear hfz93_1
               try clear hfz94_0
               try clear hfz94_1
               try clear hx890_0
               try clear hx890_1
               try clear hx901_0
               try clear hx901_1
               try clear p2
               try clear p6
               try clear p64
               try clear p8
               try clear p89
               try clear p890
               try clear p9
               try clear p90
               try clear p901
               try clear q3
               try clear q37
               try clear q8
               try clear q89
               try clear q890
               try clear q9
               try clear q90
               try clear q901
               obtain ⟨x20_5, x21_5, rfl, rfl, HA, HK5, HO_17, HO_855000, HO_855001, HO_866000, HO_866001, BK854, BK865, HB⟩ := hrel
               cases gk with
               | zero => exact absurd HA.out (by simp [curtilagelaw21_DlPlays.l2])
               | succ k5 =>
                have H := HA.out
                clear HA
                simp only [curtilagelaw21_DlPlays.l2] at H
                by_cases c121 : x21_5 < (x866001_3.length : Int)
                ·rw [if_pos c121] at H
                 have c121b0 : decide (x21_5 < (x866001_3.length : Int)) = true := decide_eq_true c121
                 clear c121
                 by_cases c122 : 0 ≤ x21_5
                 ·rw [if_pos c122] at H
                  have c122b0 : decide (0 ≤ x21_5) = true := decide_eq_true c122
                  clear c122
                  by_cases c123 : (rd x866001_3 x21_5) = x18_4
                  ·rw [if_pos c123] at H
                   have c123b0 : ((rd x866001_3 x21_5) == x18_4) = true := beq_iff_eq.mpr c123
                   have c123b1 : ((rd x866001_3 x21_5) != x18_4) = false := bne_eq_false_iff_eq.mpr c123
                   clear c123
                   have H' := am H
                   clear H
                   have hnb124 := NB865_854.out
                   have hnc124 := NB854_865.out
                   have hcz125_0 : wr.cell? ⟨gb865, 0, none⟩ = some (u866000) := (blk_cell BK865.out 0).trans rfl
                   have hcz125_1 : wr.cell? ⟨gb865, 1, none⟩ = some (u866001) := (blk_cell BK865.out 1).trans rfl
                   have hfz125_0 := blk_frozen BK865.out 0
                   have hfz125_1 := blk_frozen BK865.out 1
                   obtain ⟨Ao126, co126, eo126⟩ := Kd.R_slice HO_866001.out
                   subst eo126
                   have p922 : 0 ≤ (x21_5 : Int) := ud
                   have q922 : x21_5 < (x866001_3.length : Int) := ud
                   obtain ⟨ad922, e922, hx922_0⟩ := Kd.at_int (Kd.R_reads' HO_866001.out).2.2 x21_5 p922 q922
                   cases e922
                   replace p922 := eq_true p922
                   replace q922 := eq_true q922
                   go_wp2
                   go_roundg k5
                   case measure => have := HJ5.out; have := HJ11.out; have := HK3.out; have := HK4.out; have := HK5.out; omega
                   case rel => exact ⟨(wrap64 (x20_5 + 1)), (wrap64 (x21_5 + 1)), uf, uf, (by first | exact H' | (rw [← Nbq37.out]; exact H')), ⟨by have := HJ5.out; have := HJ11.out; have := HK3.out; have := HK4.out; have := HK5.out; omega⟩, ⟨ua HO_17.out⟩, ⟨ua HO_855000.out⟩, ⟨ua HO_855001.out⟩, ⟨ua HO_866000.out⟩, ⟨ua HO_866001.out⟩, ⟨by (with_reducible repeat (first | refine blk_drewN ?_ _ | refine blk_drew ?_ | refine blk_alloc ?_ _)); first | exact BK854.out | (rw [← Nbq37.out]; exact BK854.out)⟩, ⟨by (with_reducible repeat (first | refine blk_drewN ?_ _ | refine blk_drew ?_ | refine blk_alloc ?_ _)); first | exact BK865.out | (rw [← Nbq37.out]; exact BK865.out)⟩, ⟨uc HB.out⟩⟩
                  ·rw [if_neg c123] at H
                   have c123b0 : ((rd x866001_3 x21_5) == x18_4) = false := beq_eq_false_iff_ne.mpr c123
                   have c123b1 : ((rd x866001_3 x21_5) != x18_4) = true := bne_iff_ne.mpr c123
                   have H' := am H
                   clear H
                   have hnb127 := NB865_854.out
                   have hnc127 := NB854_865.out
                   have hcz128_0 : wr.cell? ⟨gb865, 0, none⟩ = some (u866000) := (blk_cell BK865.out 0).trans rfl
                   have hcz128_1 : wr.cell? ⟨gb865, 1, none⟩ = some (u866001) := (blk_cell BK865.out 1).trans rfl
                   have hfz128_0 := blk_frozen BK865.out 0
                   have hfz128_1 := blk_frozen BK865.out 1
                   obtain ⟨Ao129, co129, eo129⟩ := Kd.R_slice HO_866001.out
                   subst eo129
                   have p922 : 0 ≤ (x21_5 : Int) := ud
                   have q922 : x21_5 < (x866001_3.length : Int) := ud
                   obtain ⟨ad922, e922, hx922_0⟩ := Kd.at_int (Kd.R_reads' HO_866001.out).2.2 x21_5 p922 q922
                   cases e922
                   replace p922 := eq_true p922
                   replace q922 := eq_true q922
                   go_wp2
                   go_roundg k5
                   case measure => have := HJ5.out; have := HJ11.out; have := HK3.out; have := HK4.out; have := HK5.out; omega
                   case rel => exact ⟨(x20_5), (wrap64 (x21_5 + 1)), uf, uf, (by first | exact H' | (rw [← Nbq37.out]; exact H')), ⟨by have := HJ5.out; have := HJ11.out; have := HK3.out; have := HK4.out; have := HK5.out; omega⟩, ⟨ua HO_17.out⟩, ⟨ua HO_855000.out⟩, ⟨ua HO_855001.out⟩, ⟨ua HO_866000.out⟩, ⟨ua HO_866001.out⟩, ⟨by (with_reducible repeat (first | refine blk_drewN ?_ _ | refine blk_drew ?_ | refine blk_alloc ?_ _)); first | exact BK854.out | (rw [← Nbq37.out]; exact BK854.out)⟩, ⟨by (with_reducible repeat (first | refine blk_drewN ?_ _ | refine blk_drew ?_ | refine blk_alloc ?_ _)); first | exact BK865.out | (rw [← Nbq37.out]; exact BK865.out)⟩, ⟨uc HB.out⟩⟩
                 ·rw [if_neg c122] at H
                  exact absurd H (by simp)
                ·rw [if_neg c121] at H
                 have c121b0 : decide (x21_5 < (x866001_3.length : Int)) = false := decide_eq_false c121
                 clear c121
                 by_cases c130 : t921 = x20_5
                 ·rw [if_pos c130] at H
                  have c130b0 : (t921 == x20_5) = true := beq_iff_eq.mpr c130
                  have c130b1 : (t921 != x20_5) = false := bne_eq_false_iff_eq.mpr c130
                  clear c130
                  have H' := am H
                  clear H
                  have hnb131 := NB865_854.out
                  have hnc131 := NB854_865.out
                  have hcz132_0 : wr.cell? ⟨gb865, 0, none⟩ = some (u866000) := (blk_cell BK865.out 0).trans rfl
                  have hcz132_1 : wr.cell? ⟨gb865, 1, none⟩ = some (u866001) := (blk_cell BK865.out 1).trans rfl
                  have hfz132_0 := blk_frozen BK865.out 0
                  have hfz132_1 := blk_frozen BK865.out 1
                  obtain ⟨Ao133, co133, eo133⟩ := Kd.R_slice HO_866001.out
                  subst eo133
                  go_wp2
                  go_roundg k5
                  case measure => have := HJ5.out; have := HJ11.out; have := HK3.out; have := HK4.out; have := HK5.out; omega
                  case rel => exact ⟨(wrap64 (x18_4 + 1)), uf, (by first | exact H' | (rw [← Nbq37.out]; exact H')), ⟨by have := HJ5.out; have := HJ11.out; have := HK3.out; have := HK4.out; have := HK5.out; omega⟩, ⟨ua HO_17.out⟩, ⟨ua HO_855000.out⟩, ⟨ua HO_855001.out⟩, ⟨ua HO_866000.out⟩, ⟨ua HO_866001.out⟩, ⟨by (with_reducible repeat (first | refine blk_drewN ?_ _ | refine blk_drew ?_ | refine blk_alloc ?_ _)); first | exact BK854.out | (rw [← Nbq37.out]; exact BK854.out)⟩, ⟨by (with_reducible repeat (first | refine blk_drewN ?_ _ | refine blk_drew ?_ | refine blk_alloc ?_ _)); first | exact BK865.out | (rw [← Nbq37.out]; exact BK865.out)⟩, ⟨uc HB.out⟩⟩
                 ·rw [if_neg c130] at H
                  have c130b0 : (t921 == x20_5) = false := beq_eq_false_iff_ne.mpr c130
                  have c130b1 : (t921 != x20_5) = true := bne_iff_ne.mpr c130
                  obtain rfl := Option.some.inj H
                  have hnb134 := NB865_854.out
                  have hnc134 := NB854_865.out
                  have hcz135_0 : wr.cell? ⟨gb865, 0, none⟩ = some (u866000) := (blk_cell BK865.out 0).trans rfl
                  have hcz135_1 : wr.cell? ⟨gb865, 1, none⟩ = some (u866001) := (blk_cell BK865.out 1).trans rfl
                  have hfz135_0 := blk_frozen BK865.out 0
                  have hfz135_1 := blk_frozen BK865.out 1
                  obtain ⟨Ao136, co136, eo136⟩ := Kd.R_slice HO_866001.out
                  subst eo136
                  go_wp2
                  go_ret
                  exact ⟨by first | rfl | (simp [errW_none, errW_some] <;> rfl) | (simp [*, errW_none, errW_some] <;> rfl), uc HB.out⟩
             ·rw [if_neg c116] at H
              have c116b0 : decide (x18_4 < (l0.length : Int)) = false := decide_eq_false c116
              clear c116
              by_cases c137 : t845 = true
              ·subst c137
               have H1 : ((curtilageref21_Scope.f k4 l0 x866001_3).bind fun t917 => ((curtilageref10_Numbers.f k4 t914 t917).bind fun t920 => (some t920))) = some r := by rw [if_pos rfl] at H; exact H
               clear H
               have H := H1
               clear H1
               replace H := Option.bind_eq_some_iff.mp H
               obtain ⟨t917, A1380, H⟩ := H
               replace H : ((curtilageref10_Numbers.f k4 t914 t917).bind fun t920 => (some t920)) = some r := H
               have A138 := am A1380
               clear A1380
               replace H := Option.bind_eq_some_iff.mp H
               obtain ⟨t920, A1390, H⟩ := H
               replace H : (some t920) = some r := H
               have A139 := am A1390
               clear A1390
               obtain rfl := Option.some.inj H
               have hnb140 := NB865_854.out
               have hnc140 := NB854_865.out
               have hcz141_0 : wr.cell? ⟨gb865, 0, none⟩ = some (u866000) := (blk_cell BK865.out 0).trans rfl
               have hcz141_1 : wr.cell? ⟨gb865, 1, none⟩ = some (u866001) := (blk_cell BK865.out 1).trans rfl
               have hfz141_0 := blk_frozen BK865.out 0
               have hfz141_1 := blk_frozen BK865.out 1
               obtain ⟨Ao142, co142, eo142⟩ := Kd.R_slice HO_866001.out
               subst eo142
               go_wp2_with (first | (go_at_call 27; (with_reducible refine (curtilageref21_Scope.calls k4 _ _ l0 _ _ x866001_3 t917 _ ?side1 ?side2 ?side3 ?side4 A138.out).mono ?_); (case side1 => exact us (Kd.C_below HR0.out HB.out)); (case side2 => exact HC0.out); (case side3 => exact us (Kd.R_reads' HO_866001.out).2.2); (case side4 => exact (Kd.R_reads' HO_866001.out).2.1); rintro e w143 ⟨v918, rfl, ho0, hb⟩; have n0_ := am (Kd.R_elder' (ua HO_17.out) (Kd.R_base ho0) hb); have n1_ := am (Kd.R_elder' (ua HO_855000.out) (Kd.R_base ho0) hb); have n2_ := am (Kd.R_elder' (ua HO_855001.out) (Kd.R_base ho0) hb); have n3_ := am (Kd.R_elder' (ua HO_866000.out) (Kd.R_base ho0) hb); have n4_ := am (Kd.R_elder' (ua HO_866001.out) (Kd.R_base ho0) hb); have n5_ := am (Kd.R_lower (Kd.R_new' (Kd.R_new' (Kd.R_new' (Kd.R_new' (Kd.R_new' ho0 (Kd.R_lt (ua HO_17.out))) (Kd.R_lt (ua HO_855000.out))) (Kd.R_lt (ua HO_855001.out))) (Kd.R_lt (ua HO_866000.out))) (Kd.R_lt (ua HO_866001.out))) (below_size (uc HB.out))); have n6_ := am (blk_below (g := gb854) (o := .cells #[.slice Ao113 x855000_3.length co113, .slice Ao114 x855001_3.length co114] 28 (0, 0)) (ub BK854.out) hb); have n7_ := am (blk_below (g := gb865) (o := .cells #[u866000, .slice Ao142 x866001_3.length co142] 53 (0, 0)) (ub BK865.out) hb); have n8_ := am (below_step (uc HB.out) hb); revert n0_ n1_ n2_ n3_ n4_ n5_ n6_ n7_ n8_; clear HO_17 HO_855000 HO_855001 HO_866000 HO_866001 BK854 BK865 HB; intro HO_17 HO_855000 HO_855001 HO_866000 HO_866001 HO919 BK854 BK865 HB; (try clear hb); (try clear hb2); (try clear hk); (try clear hi); (try clear ho0); obtain ⟨Ao144, co144, eo144⟩ := Kd.R_slice HO_17.out; subst eo144; obtain ⟨Ao145, co145, eo145⟩ := Kd.R_slice HO919.out; subst eo145) | (go_at_call 16; (with_reducible refine (curtilageref10_Numbers.calls k4 _ _ t914 _ _ t917 t920 _ ?side1 ?side2 ?side3 ?side4 A139.out).mono ?_); (case side1 => exact us (Kd.R_reads' HO_17.out).2.2); (case side2 => exact (Kd.R_reads' HO_17.out).2.1); (case side3 => exact us (Kd.R_reads' HO919.out).2.2); (case side4 => exact (Kd.R_reads' HO919.out).2.1); rintro e w' ⟨rfl, ⟨nd, rfl⟩⟩))
               go_ret
               exact ⟨by first | rfl | (simp [errW_none, errW_some] <;> rfl) | (simp [*, errW_none, errW_some] <;> rfl), uc HB.out⟩
              ·replace c137 := Bool.eq_false_iff.mpr c137
               subst c137
               have H1 : (some false) = some r := by rw [if_neg (show ¬ (false = true) by decide)] at H; exact H
               clear H
               have H := H1
               clear H1
               exact absurd ((Option.some.inj H).trans HT.out) (by decide)
       ·rw [if_neg c33] at H
        have c33b0 : (t853 == 0) = false := beq_eq_false_iff_ne.mpr c33
        have c33b1 : (t853 != 0) = true := bne_iff_ne.mpr c33
        obtain rfl := Option.some.inj H
        go_wp2
        go_ret
        exact ⟨by first | rfl | (simp [errW_none, errW_some] <;> rfl) | (simp [*, errW_none, errW_some] <;> rfl), uc HB.out⟩

end Go.Proofs.Ytociaidhgefpiaa.P
