/- What functions of the program, and of its laws, give, each proved of its code by a walk; no condition. -/
import Derived.Test.YtafpkpalkaphkaaDoorKCapThroughPx0
import Derived.Test.YtafpkpalkaphkaaDoorKCapThroughPx1
import Derived.Test.YtafpkpalkaphkaaDoorKCapThroughPx3
import Derived.Test.YtafpkpalkaphkaaDoorKCapThroughPx4
import Derived.Test.YtafpkpalkaphkaaDoorKCapThroughPx5
import Derived.Test.YtafpkpalkaphkaaDoorKCapThroughPx6
import Derived.Test.YtafpkpalkaphkaaDoorKCapThroughPx8
import Derived.Test.YtafpkpalkaphkaaDoorKCapThroughPx9
namespace Go.Proofs.YtafpkpalkaphkaaDoor.P
open Go.RowKit Go.Proofs.YtafpkpalkaphkaaDoorW.PrintWords Go.Proofs.YtafpkpalkaphkaaDoorW.PrintLast Go.Proofs.YtafpkpalkaphkaaDoorW.PrintMore
attribute [local go_sem] max2_int min2_int max_two min_two max_three min_three max_four min_four   -- for this text's walks alone
set_option linter.unusedVariables false
set_option linter.unusedSimpArgs false

attribute [local go_sem high] eqA24
def curtilagelaw02_CapSeals.j0 : Nat → Bool → Bool → Int → Int → Int → Int → Int → Bool → Int → Int → Int → Int → Int → Bool → Option (Bool)
  | 0, _, _, _, _, _, _, _, _, _, _, _, _, _, _ => none
  | k + 1, x5, x20, x329000, x329001, x329002, x329003, x329004, x329005, x330000, x330001, x330002, x330003, x330004, x330005 => if x20 = true then (some x5) else ((cap_Seal.f x329000 x329001 x329002 x329003 x329004 x329005 x330000 x330001 x330002 x330003 x330004 x330005).bind fun bt333 => ((cap_Unseal.f x329000 x329001 x329002 x329003 x329004 x329005 x330000 x330001 x330002 x330003 x330004 x330005).bind fun bt340 => (if x5 = true then ((curtilageref02_Seal.f k x329000 x329001 x329002 x329003 x329004 x329005 x330000 x330001 x330002 x330003 x330004 x330005).bind fun bt347 => (if (bt333.1 == bt347.1 && (bt333.2.1 == bt347.2.1 && (bt333.2.2.1 == bt347.2.2.1 && (bt333.2.2.2.1 == bt347.2.2.2.1 && (bt333.2.2.2.2.1 == bt347.2.2.2.2.1 && (bt333.2.2.2.2.2 == bt347.2.2.2.2.2)))))) = true then ((curtilageref02_Unseal.f k x329000 x329001 x329002 x329003 x329004 x329005 x330000 x330001 x330002 x330003 x330004 x330005).bind fun bt353 => (some (bt340.1 == bt353.1 && (bt340.2.1 == bt353.2.1 && (bt340.2.2.1 == bt353.2.2.1 && (bt340.2.2.2.1 == bt353.2.2.2.1 && (bt340.2.2.2.2.1 == bt353.2.2.2.2.1 && (bt340.2.2.2.2.2 == bt353.2.2.2.2.2)))))))) else (some false))) else (some false))))
def curtilagelaw02_CapSeals.f (k : Nat) (a0_0 : Int) (a0_1 : Int) (a0_2 : Int) (a0_3 : Int) (a0_4 : Int) (a0_5 : Bool) (a1_0 : Int) (a1_1 : Int) (a1_2 : Int) (a1_3 : Int) (a1_4 : Int) (a1_5 : Bool) : Option (Bool) := (curtilagelaw02_awake.f k).bind fun t330 => ((curtilageref02_Right.f a0_0 a0_1 a0_2 a0_3 a0_4 a0_5).bind fun t331 => ((curtilageref02_Right.f a1_0 a1_1 a1_2 a1_3 a1_4 a1_5).bind fun t332 => (if t331 = true then (curtilagelaw02_CapSeals.j0 k t330 (!t332) a0_0 a0_1 a0_2 a0_3 a0_4 a0_5 a1_0 a1_1 a1_2 a1_3 a1_4 a1_5) else (curtilagelaw02_CapSeals.j0 k t330 true a0_0 a0_1 a0_2 a0_3 a0_4 a0_5 a1_0 a1_1 a1_2 a1_3 a1_4 a1_5))))
theorem curtilagelaw02_CapSeals.mono_l : ∀ k, (∀ y0 y1 y2 y3 y4 y5 y6 y7 y8 y9 y10 y11 y12 y13, LeO (curtilagelaw02_CapSeals.j0 k y0 y1 y2 y3 y4 y5 y6 y7 y8 y9 y10 y11 y12 y13) (curtilagelaw02_CapSeals.j0 (k + 1) y0 y1 y2 y3 y4 y5 y6 y7 y8 y9 y10 y11 y12 y13))
  | 0 => fun _ _ _ _ _ _ _ _ _ _ _ _ _ _ r h => by simp [curtilagelaw02_CapSeals.j0] at h
  | k + 1 => by
    have ih0 := curtilagelaw02_CapSeals.mono_l k
    · intro y0 y1 y2 y3 y4 y5 y6 y7 y8 y9 y10 y11 y12 y13
      unfold curtilagelaw02_CapSeals.j0
      repeat' first
      | (with_reducible exact ih0 _ _ _ _ _ _ _ _ _ _ _ _ _ _)
      | (with_reducible exact curtilagelaw02_awake.mono _)
      | (with_reducible exact curtilageref02_Seal.mono _ _ _ _ _ _ _ _ _ _ _ _ _)
      | (with_reducible exact curtilageref02_Unseal.mono _ _ _ _ _ _ _ _ _ _ _ _ _)
      | (with_reducible exact LeO.refl _)
      | (with_reducible exact LeO.none _)
      | (with_reducible refine LeO.ite ?_ ?_)
      | (with_reducible refine LeO.bind ?_ (fun _ => ?_))
      | exact ih0 _ _ _ _ _ _ _ _ _ _ _ _ _ _
      | exact curtilagelaw02_awake.mono _
      | exact curtilageref02_Seal.mono _ _ _ _ _ _ _ _ _ _ _ _ _
      | exact curtilageref02_Unseal.mono _ _ _ _ _ _ _ _ _ _ _ _ _
      | exact LeO.none _
      | refine LeO.ite ?_ ?_
      | refine LeO.bind ?_ (fun _ => ?_)
theorem curtilagelaw02_CapSeals.mono : ∀ a0 a1 a2 a3 a4 a5 a6 a7 a8 a9 a10 a11 k, LeO (curtilagelaw02_CapSeals.f k a0 a1 a2 a3 a4 a5 a6 a7 a8 a9 a10 a11) (curtilagelaw02_CapSeals.f (k + 1) a0 a1 a2 a3 a4 a5 a6 a7 a8 a9 a10 a11) := by
  intro a0 a1 a2 a3 a4 a5 a6 a7 a8 a9 a10 a11 k
  have ih0 := curtilagelaw02_CapSeals.mono_l k
  unfold curtilagelaw02_CapSeals.f
  repeat' first
      | (with_reducible exact ih0 _ _ _ _ _ _ _ _ _ _ _ _ _ _)
      | (with_reducible exact curtilagelaw02_awake.mono _)
      | (with_reducible exact curtilageref02_Seal.mono _ _ _ _ _ _ _ _ _ _ _ _ _)
      | (with_reducible exact curtilageref02_Unseal.mono _ _ _ _ _ _ _ _ _ _ _ _ _)
      | (with_reducible exact LeO.refl _)
      | (with_reducible exact LeO.none _)
      | (with_reducible refine LeO.ite ?_ ?_)
      | (with_reducible refine LeO.bind ?_ (fun _ => ?_))
      | exact ih0 _ _ _ _ _ _ _ _ _ _ _ _ _ _
      | exact curtilagelaw02_awake.mono _
      | exact curtilageref02_Seal.mono _ _ _ _ _ _ _ _ _ _ _ _ _
      | exact curtilageref02_Unseal.mono _ _ _ _ _ _ _ _ _ _ _ _ _
      | exact LeO.none _
      | refine LeO.ite ?_ ?_
      | refine LeO.bind ?_ (fun _ => ?_)
def curtilagelaw02_CapTexts.j0 : Nat → Bool → Bool → Int → Int → Int → Int → Int → Bool → Int → Int → Int → Int → Int → Bool → Option (Bool)
  | 0, _, _, _, _, _, _, _, _, _, _, _, _, _, _ => none
  | k + 1, x5, x20, x360000, x360001, x360002, x360003, x360004, x360005, x361000, x361001, x361002, x361003, x361004, x361005 => if x20 = true then (some x5) else ((cap_Text.f k x360000 x360001 x360002 x360003 x360004 x360005).bind fun t364 => ((cap_Text.f k x361000 x361001 x361002 x361003 x361004 x361005).bind fun t365 => (if x5 = true then (some ((t364.toList == t365.toList) == (x360000 == x361000 && (x360001 == x361001 && (x360002 == x361002 && (x360003 == x361003 && (x360004 == x361004 && (x360005 == x361005)))))))) else (some false))))
def curtilagelaw02_CapTexts.f (k : Nat) (a0_0 : Int) (a0_1 : Int) (a0_2 : Int) (a0_3 : Int) (a0_4 : Int) (a0_5 : Bool) (a1_0 : Int) (a1_1 : Int) (a1_2 : Int) (a1_3 : Int) (a1_4 : Int) (a1_5 : Bool) : Option (Bool) := (curtilagelaw02_awake.f k).bind fun t361 => ((curtilageref02_Right.f a0_0 a0_1 a0_2 a0_3 a0_4 a0_5).bind fun t362 => ((curtilageref02_Right.f a1_0 a1_1 a1_2 a1_3 a1_4 a1_5).bind fun t363 => (if t362 = true then (curtilagelaw02_CapTexts.j0 k t361 (!t363) a0_0 a0_1 a0_2 a0_3 a0_4 a0_5 a1_0 a1_1 a1_2 a1_3 a1_4 a1_5) else (curtilagelaw02_CapTexts.j0 k t361 true a0_0 a0_1 a0_2 a0_3 a0_4 a0_5 a1_0 a1_1 a1_2 a1_3 a1_4 a1_5))))
theorem curtilagelaw02_CapTexts.mono_l : ∀ k, (∀ y0 y1 y2 y3 y4 y5 y6 y7 y8 y9 y10 y11 y12 y13, LeO (curtilagelaw02_CapTexts.j0 k y0 y1 y2 y3 y4 y5 y6 y7 y8 y9 y10 y11 y12 y13) (curtilagelaw02_CapTexts.j0 (k + 1) y0 y1 y2 y3 y4 y5 y6 y7 y8 y9 y10 y11 y12 y13))
  | 0 => fun _ _ _ _ _ _ _ _ _ _ _ _ _ _ r h => by simp [curtilagelaw02_CapTexts.j0] at h
  | k + 1 => by
    have ih0 := curtilagelaw02_CapTexts.mono_l k
    · intro y0 y1 y2 y3 y4 y5 y6 y7 y8 y9 y10 y11 y12 y13
      unfold curtilagelaw02_CapTexts.j0
      repeat' first
      | (with_reducible exact ih0 _ _ _ _ _ _ _ _ _ _ _ _ _ _)
      | (with_reducible exact cap_Text.mono _ _ _ _ _ _ _)
      | (with_reducible exact curtilagelaw02_awake.mono _)
      | (with_reducible exact LeO.refl _)
      | (with_reducible exact LeO.none _)
      | (with_reducible refine LeO.ite ?_ ?_)
      | (with_reducible refine LeO.bind ?_ (fun _ => ?_))
      | exact ih0 _ _ _ _ _ _ _ _ _ _ _ _ _ _
      | exact cap_Text.mono _ _ _ _ _ _ _
      | exact curtilagelaw02_awake.mono _
      | exact LeO.none _
      | refine LeO.ite ?_ ?_
      | refine LeO.bind ?_ (fun _ => ?_)
theorem curtilagelaw02_CapTexts.mono : ∀ a0 a1 a2 a3 a4 a5 a6 a7 a8 a9 a10 a11 k, LeO (curtilagelaw02_CapTexts.f k a0 a1 a2 a3 a4 a5 a6 a7 a8 a9 a10 a11) (curtilagelaw02_CapTexts.f (k + 1) a0 a1 a2 a3 a4 a5 a6 a7 a8 a9 a10 a11) := by
  intro a0 a1 a2 a3 a4 a5 a6 a7 a8 a9 a10 a11 k
  have ih0 := curtilagelaw02_CapTexts.mono_l k
  unfold curtilagelaw02_CapTexts.f
  repeat' first
      | (with_reducible exact ih0 _ _ _ _ _ _ _ _ _ _ _ _ _ _)
      | (with_reducible exact cap_Text.mono _ _ _ _ _ _ _)
      | (with_reducible exact curtilagelaw02_awake.mono _)
      | (with_reducible exact LeO.refl _)
      | (with_reducible exact LeO.none _)
      | (with_reducible refine LeO.ite ?_ ?_)
      | (with_reducible refine LeO.bind ?_ (fun _ => ?_))
      | exact ih0 _ _ _ _ _ _ _ _ _ _ _ _ _ _
      | exact cap_Text.mono _ _ _ _ _ _ _
      | exact curtilagelaw02_awake.mono _
      | exact LeO.none _
      | refine LeO.ite ?_ ?_
      | refine LeO.bind ?_ (fun _ => ?_)
def cap_And.f (a0_0 : Int) (a0_1 : Int) (a0_2 : Int) (a0_3 : Int) (a0_4 : Int) (a0_5 : Bool) (a1 : Int) : Option (Int × Int × Int × Int × Int × Bool) := (cap_open.f a0_0 a0_1 a0_2 (Go.bits .and .i64 a0_3 a1) a0_4 a0_5).bind fun bt368 => (some (bt368.1, bt368.2.1, bt368.2.2.1, bt368.2.2.2.1, bt368.2.2.2.2.1, bt368.2.2.2.2.2))
-- NOT PRINTED: function 5 (curtilagelaw02_CapSealed)

def cap_Int.f (a0 : Int) : Option (Int × Int × Int × Int × Int × Bool) := some (0, 0, a0, 0, (-1), false)
def cap_Null.f  : Option (Int × Int × Int × Int × Int × Bool) := (cap_Int.f 0).bind fun bt437 => (some (bt437.1, bt437.2.1, bt437.2.2.1, bt437.2.2.2.1, bt437.2.2.2.2.1, bt437.2.2.2.2.2))
def curtilageref02_Int.f (a0 : Int) : Option (Int × Int × Int × Int × Int × Bool) := some (0, 0, a0, 0, (-1), false)
def curtilageref02_Root.f (a0 : Int) : Option (Int × Int × Int × Int × Int × Bool) := some (0, a0, 0, 255, (-1), true)
def curtilageref02_Move.f (a0_0 : Int) (a0_1 : Int) (a0_2 : Int) (a0_3 : Int) (a0_4 : Int) (a0_5 : Bool) (a1 : Int) : Option (Int × Int × Int × Int × Int × Bool) := if a0_5 = true then (some (a0_0, a0_1, a1, a0_3, a0_4, (a0_4 == (-1)))) else (some (a0_0, a0_1, a1, a0_3, a0_4, false))
def curtilageref02_Inside.f (a0_0 : Int) (a0_1 : Int) (a0_2 : Int) (a0_3 : Int) (a0_4 : Int) (a0_5 : Bool) (a1 : Int) : Option (Bool) := if a0_2 < a0_0 then (some false) else (if a0_2 > a0_1 then (some false) else (some (decide (a1 ≤ (IntKind.u64.wrap (a0_1 - a0_2))))))
def curtilageref02_Bound.f (a0_0 : Int) (a0_1 : Int) (a0_2 : Int) (a0_3 : Int) (a0_4 : Int) (a0_5 : Bool) (a1 : Int) : Option (Int × Int × Int × Int × Int × Bool) := (curtilageref02_Inside.f a0_0 a0_1 a0_2 a0_3 a0_4 a0_5 a1).bind fun t450 => (if a0_5 = true then (if a0_4 = (-1) then (if t450 = true then (some (a0_2, IntKind.u64.wrap (a0_2 + a1), a0_2, a0_3, (-1), true)) else ((curtilageref02_Clear.f a0_0 a0_1 a0_2 a0_3 a0_4 a0_5).bind fun bt451 => (some (bt451.1, bt451.2.1, bt451.2.2.1, bt451.2.2.2.1, bt451.2.2.2.2.1, bt451.2.2.2.2.2)))) else ((curtilageref02_Clear.f a0_0 a0_1 a0_2 a0_3 a0_4 a0_5).bind fun bt457 => (some (bt457.1, bt457.2.1, bt457.2.2.1, bt457.2.2.2.1, bt457.2.2.2.2.1, bt457.2.2.2.2.2)))) else ((curtilageref02_Clear.f a0_0 a0_1 a0_2 a0_3 a0_4 a0_5).bind fun bt463 => (some (bt463.1, bt463.2.1, bt463.2.2.1, bt463.2.2.2.1, bt463.2.2.2.2.1, bt463.2.2.2.2.2))))
end Go.Proofs.YtafpkpalkaphkaaDoor.P
