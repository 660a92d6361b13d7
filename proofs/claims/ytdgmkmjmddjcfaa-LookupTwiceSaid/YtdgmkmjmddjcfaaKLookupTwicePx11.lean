/- What functions of the program, and of its laws, give, each proved of its code by a walk; no condition. -/
import Derived.Test.YtdgmkmjmddjcfaaKLookupTwicePx0
import Derived.Test.YtdgmkmjmddjcfaaKLookupTwicePx7
import Derived.Test.YtdgmkmjmddjcfaaKLookupTwicePx8
import Derived.Test.YtdgmkmjmddjcfaaKLookupTwicePx9
import Derived.Test.YtdgmkmjmddjcfaaKLookupTwicePx10
namespace Go.Proofs.Ytdgmkmjmddjcfaa.P
open Go.RowKit Go.Proofs.YtdgmkmjmddjcfaaW.PrintWords Go.Proofs.YtdgmkmjmddjcfaaW.PrintLast Go.Proofs.YtdgmkmjmddjcfaaW.PrintMore
attribute [local go_sem] max2_int min2_int max_two min_two max_three min_three max_four min_four   -- for this text's walks alone
set_option linter.unusedVariables false
set_option linter.unusedSimpArgs false

def curtilageref14_Bind.j0 : Nat → List (S32) → List Int → Int → Int → Bool → ByteArray → ByteArray → Int → Int → Int → Int → Int → Bool → Option (Int × Int × Int)
  | 0, _, _, _, _, _, _, _, _, _, _, _, _, _ => none
  | k + 1, x0, x1, x2, x3, x34, x275000, x275001, x275002, x275003, x275004, x275005, x275006, x275007 => if x34 = true then (some (x2, x3, 0)) else ((curtilageref14_In.f k x0 x1 x275000 x275001).bind fun bt275 => (if bt275.1 ≥ 0 then (some (bt275.1, bt275.2, 0)) else (if x275007 = true then (some (x2, x3, 0)) else (if x275005 = 3 then (some ((-1), (-1), 0)) else ((curtilageref14_Known.f k x0 x1 x275000).bind fun t277 => (if x275001.toList = ([] : List UInt8) then (some (0, 0, 140)) else (if t277 = true then (some (0, 0, 141)) else (some (0, 0, 140)))))))))
def curtilageref14_Bind.f (k : Nat) (l0 : List (S32)) (l1 : List Int) (a2 : Int) (a3 : Int) : Option (Int × Int × Int) := if 0 ≤ a2 then (if a2 < (l0.length : Int) then (if 0 ≤ a3 then (if a3 < (((rd_T32 l0 a2).f3).length : Int) then (if (rd_T42 ((rd_T32 l0 a2).f3) a3).f7 = true then (if ((rd_T42 ((rd_T32 l0 a2).f3) a3).f5) = 1 then (curtilageref14_Bind.j0 k l0 l1 a2 a3 true ((rd_T42 ((rd_T32 l0 a2).f3) a3).f0) ((rd_T42 ((rd_T32 l0 a2).f3) a3).f1) ((rd_T42 ((rd_T32 l0 a2).f3) a3).f2) ((rd_T42 ((rd_T32 l0 a2).f3) a3).f3) ((rd_T42 ((rd_T32 l0 a2).f3) a3).f4) ((rd_T42 ((rd_T32 l0 a2).f3) a3).f5) ((rd_T42 ((rd_T32 l0 a2).f3) a3).f6) ((rd_T42 ((rd_T32 l0 a2).f3) a3).f7)) else (curtilageref14_Bind.j0 k l0 l1 a2 a3 (((rd_T42 ((rd_T32 l0 a2).f3) a3).f6) == 2) ((rd_T42 ((rd_T32 l0 a2).f3) a3).f0) ((rd_T42 ((rd_T32 l0 a2).f3) a3).f1) ((rd_T42 ((rd_T32 l0 a2).f3) a3).f2) ((rd_T42 ((rd_T32 l0 a2).f3) a3).f3) ((rd_T42 ((rd_T32 l0 a2).f3) a3).f4) ((rd_T42 ((rd_T32 l0 a2).f3) a3).f5) ((rd_T42 ((rd_T32 l0 a2).f3) a3).f6) ((rd_T42 ((rd_T32 l0 a2).f3) a3).f7))) else (curtilageref14_Bind.j0 k l0 l1 a2 a3 false ((rd_T42 ((rd_T32 l0 a2).f3) a3).f0) ((rd_T42 ((rd_T32 l0 a2).f3) a3).f1) ((rd_T42 ((rd_T32 l0 a2).f3) a3).f2) ((rd_T42 ((rd_T32 l0 a2).f3) a3).f3) ((rd_T42 ((rd_T32 l0 a2).f3) a3).f4) ((rd_T42 ((rd_T32 l0 a2).f3) a3).f5) ((rd_T42 ((rd_T32 l0 a2).f3) a3).f6) ((rd_T42 ((rd_T32 l0 a2).f3) a3).f7))) else (none)) else (none)) else (none)) else (none)
theorem curtilageref14_Bind.mono_l : ∀ k, (∀ y0 y1 y2 y3 y4 y5 y6 y7 y8 y9 y10 y11 y12, LeO (curtilageref14_Bind.j0 k y0 y1 y2 y3 y4 y5 y6 y7 y8 y9 y10 y11 y12) (curtilageref14_Bind.j0 (k + 1) y0 y1 y2 y3 y4 y5 y6 y7 y8 y9 y10 y11 y12))
  | 0 => fun _ _ _ _ _ _ _ _ _ _ _ _ _ r h => by simp [curtilageref14_Bind.j0] at h
  | k + 1 => by
    have ih0 := curtilageref14_Bind.mono_l k
    · intro y0 y1 y2 y3 y4 y5 y6 y7 y8 y9 y10 y11 y12
      unfold curtilageref14_Bind.j0
      repeat' first
      | (with_reducible exact ih0 _ _ _ _ _ _ _ _ _ _ _ _ _)
      | (with_reducible exact curtilageref14_In.mono _ _ _ _ _)
      | (with_reducible exact curtilageref14_Known.mono _ _ _ _)
      | (with_reducible exact LeO.refl _)
      | (with_reducible exact LeO.none _)
      | (with_reducible refine LeO.ite ?_ ?_)
      | (with_reducible refine LeO.bind ?_ (fun _ => ?_))
      | exact ih0 _ _ _ _ _ _ _ _ _ _ _ _ _
      | exact curtilageref14_In.mono _ _ _ _ _
      | exact curtilageref14_Known.mono _ _ _ _
      | exact LeO.none _
      | refine LeO.ite ?_ ?_
      | refine LeO.bind ?_ (fun _ => ?_)
theorem curtilageref14_Bind.mono : ∀ a0 a1 a2 a3 k, LeO (curtilageref14_Bind.f k a0 a1 a2 a3) (curtilageref14_Bind.f (k + 1) a0 a1 a2 a3) := by
  intro a0 a1 a2 a3 k
  have ih0 := curtilageref14_Bind.mono_l k
  unfold curtilageref14_Bind.f
  repeat' first
      | (with_reducible exact ih0 _ _ _ _ _ _ _ _ _ _ _ _ _)
      | (with_reducible exact curtilageref14_In.mono _ _ _ _ _)
      | (with_reducible exact curtilageref14_Known.mono _ _ _ _)
      | (with_reducible exact LeO.refl _)
      | (with_reducible exact LeO.none _)
      | (with_reducible refine LeO.ite ?_ ?_)
      | (with_reducible refine LeO.bind ?_ (fun _ => ?_))
      | exact ih0 _ _ _ _ _ _ _ _ _ _ _ _ _
      | exact curtilageref14_In.mono _ _ _ _ _
      | exact curtilageref14_Known.mono _ _ _ _
      | exact LeO.none _
      | refine LeO.ite ?_ ?_
      | refine LeO.bind ?_ (fun _ => ?_)
def curtilagelaw14_LookupBinds.j0 : Nat → List (S32) → List Int → Int → Int → Bool → Bool → Option (Bool)
  | 0, _, _, _, _, _, _ => none
  | k + 1, x0, x1, x2, x3, x9, x54 => if x54 = true then (some x9) else ((lookup_Bind.f k x0 x1 x2 x3).bind fun bt282 => ((curtilageref14_Bind.f k x0 x1 x2 x3).bind fun bt285 => (if x9 = true then (if bt282.1 = bt285.1 then (if bt282.2.1 = bt285.2.1 then (some (bt282.2.2 == bt285.2.2)) else (some false)) else (some false)) else (some false))))
def curtilagelaw14_LookupBinds.f (k : Nat) (l0 : List (S32)) (l1 : List Int) (a2 : Int) (a3 : Int) : Option (Bool) := (curtilagelaw14_awake.f k).bind fun t278 => ((curtilageref14_Short.f k l0).bind fun t279 => ((curtilageref14_Right.f k l1 (l0.length : Int)).bind fun t280 => (if t279 = true then (if t280 = true then (if a2 < 0 then (curtilagelaw14_LookupBinds.j0 k l0 l1 a2 a3 t278 true) else (if a2 ≥ (l0.length : Int) then (curtilagelaw14_LookupBinds.j0 k l0 l1 a2 a3 t278 true) else (if a3 < 0 then (curtilagelaw14_LookupBinds.j0 k l0 l1 a2 a3 t278 true) else (if 0 ≤ a2 then (if a2 < (l0.length : Int) then (curtilagelaw14_LookupBinds.j0 k l0 l1 a2 a3 t278 (decide (a3 ≥ (((rd_T32 l0 a2).f3).length : Int)))) else (none)) else (none))))) else (curtilagelaw14_LookupBinds.j0 k l0 l1 a2 a3 t278 true)) else (curtilagelaw14_LookupBinds.j0 k l0 l1 a2 a3 t278 true))))
theorem curtilagelaw14_LookupBinds.mono_l : ∀ k, (∀ y0 y1 y2 y3 y4 y5, LeO (curtilagelaw14_LookupBinds.j0 k y0 y1 y2 y3 y4 y5) (curtilagelaw14_LookupBinds.j0 (k + 1) y0 y1 y2 y3 y4 y5))
  | 0 => fun _ _ _ _ _ _ r h => by simp [curtilagelaw14_LookupBinds.j0] at h
  | k + 1 => by
    have ih0 := curtilagelaw14_LookupBinds.mono_l k
    · intro y0 y1 y2 y3 y4 y5
      unfold curtilagelaw14_LookupBinds.j0
      repeat' first
      | (with_reducible exact ih0 _ _ _ _ _ _)
      | (with_reducible exact curtilagelaw14_awake.mono _)
      | (with_reducible exact curtilageref14_Bind.mono _ _ _ _ _)
      | (with_reducible exact curtilageref14_Right.mono _ _ _)
      | (with_reducible exact curtilageref14_Short.mono _ _)
      | (with_reducible exact lookup_Bind.mono _ _ _ _ _)
      | (with_reducible exact LeO.refl _)
      | (with_reducible exact LeO.none _)
      | (with_reducible refine LeO.ite ?_ ?_)
      | (with_reducible refine LeO.bind ?_ (fun _ => ?_))
      | exact ih0 _ _ _ _ _ _
      | exact curtilagelaw14_awake.mono _
      | exact curtilageref14_Bind.mono _ _ _ _ _
      | exact curtilageref14_Right.mono _ _ _
      | exact curtilageref14_Short.mono _ _
      | exact lookup_Bind.mono _ _ _ _ _
      | exact LeO.none _
      | refine LeO.ite ?_ ?_
      | refine LeO.bind ?_ (fun _ => ?_)
theorem curtilagelaw14_LookupBinds.mono : ∀ a0 a1 a2 a3 k, LeO (curtilagelaw14_LookupBinds.f k a0 a1 a2 a3) (curtilagelaw14_LookupBinds.f (k + 1) a0 a1 a2 a3) := by
  intro a0 a1 a2 a3 k
  have ih0 := curtilagelaw14_LookupBinds.mono_l k
  unfold curtilagelaw14_LookupBinds.f
  repeat' first
      | (with_reducible exact ih0 _ _ _ _ _ _)
      | (with_reducible exact curtilagelaw14_awake.mono _)
      | (with_reducible exact curtilageref14_Bind.mono _ _ _ _ _)
      | (with_reducible exact curtilageref14_Right.mono _ _ _)
      | (with_reducible exact curtilageref14_Short.mono _ _)
      | (with_reducible exact lookup_Bind.mono _ _ _ _ _)
      | (with_reducible exact LeO.refl _)
      | (with_reducible exact LeO.none _)
      | (with_reducible refine LeO.ite ?_ ?_)
      | (with_reducible refine LeO.bind ?_ (fun _ => ?_))
      | exact ih0 _ _ _ _ _ _
      | exact curtilagelaw14_awake.mono _
      | exact curtilageref14_Bind.mono _ _ _ _ _
      | exact curtilageref14_Right.mono _ _ _
      | exact curtilageref14_Short.mono _ _
      | exact lookup_Bind.mono _ _ _ _ _
      | exact LeO.none _
      | refine LeO.ite ?_ ?_
      | refine LeO.bind ?_ (fun _ => ?_)
end Go.Proofs.Ytdgmkmjmddjcfaa.P
