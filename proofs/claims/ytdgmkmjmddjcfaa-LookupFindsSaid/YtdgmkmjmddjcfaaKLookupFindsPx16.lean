/- What functions of the program, and of its laws, give, each proved of its code by a walk; no condition. -/
import Derived.Test.YtdgmkmjmddjcfaaKLookupFindsPx0
import Derived.Test.YtdgmkmjmddjcfaaKLookupFindsPx6
import Derived.Test.YtdgmkmjmddjcfaaKLookupFindsPx8
import Derived.Test.YtdgmkmjmddjcfaaKLookupFindsPx9
import Derived.Test.YtdgmkmjmddjcfaaKLookupFindsPx10
import Derived.Test.YtdgmkmjmddjcfaaKLookupFindsPx14
namespace Go.Proofs.Ytdgmkmjmddjcfaa.P
open Go.RowKit Go.Proofs.YtdgmkmjmddjcfaaW.PrintWords Go.Proofs.YtdgmkmjmddjcfaaW.PrintLast Go.Proofs.YtdgmkmjmddjcfaaW.PrintMore
attribute [local go_sem] max2_int min2_int max_two min_two max_three min_three max_four min_four   -- for this text's walks alone
set_option linter.unusedVariables false
set_option linter.unusedSimpArgs false

def curtilageref10_Texts.l0 : Nat → List ByteArray → List ByteArray → Int → Option (Bool)
  | 0, _, _, _ => none
  | k + 1, x0, x1, x5 => if x5 < (x0.length : Int) then (if 0 ≤ x5 then (if x5 < (x1.length : Int) then (if (rdOf ByteArray.empty x0 x5).toList = (rdOf ByteArray.empty x1 x5).toList then (curtilageref10_Texts.l0 k x0 x1 (wrap64 (x5 + 1))) else (some false)) else (none)) else (none)) else (some true)
def curtilageref10_Texts.f (k : Nat) (l0 : List ByteArray) (l1 : List ByteArray) : Option (Bool) := if (l0.length : Int) = (l1.length : Int) then (curtilageref10_Texts.l0 k l0 l1 0) else (some false)
theorem curtilageref10_Texts.mono_l : ∀ k, (∀ y0 y1 y2, LeO (curtilageref10_Texts.l0 k y0 y1 y2) (curtilageref10_Texts.l0 (k + 1) y0 y1 y2))
  | 0 => fun _ _ _ r h => by simp [curtilageref10_Texts.l0] at h
  | k + 1 => by
    have ih0 := curtilageref10_Texts.mono_l k
    · intro y0 y1 y2
      unfold curtilageref10_Texts.l0
      repeat' first
      | (with_reducible exact ih0 _ _ _)
      | (with_reducible exact LeO.refl _)
      | (with_reducible exact LeO.none _)
      | (with_reducible refine LeO.ite ?_ ?_)
      | (with_reducible refine LeO.bind ?_ (fun _ => ?_))
      | exact ih0 _ _ _
      | exact LeO.none _
      | refine LeO.ite ?_ ?_
      | refine LeO.bind ?_ (fun _ => ?_)
theorem curtilageref10_Texts.mono : ∀ a0 a1 k, LeO (curtilageref10_Texts.f k a0 a1) (curtilageref10_Texts.f (k + 1) a0 a1) := by
  intro a0 a1 k
  have ih0 := curtilageref10_Texts.mono_l k
  unfold curtilageref10_Texts.f
  repeat' first
      | (with_reducible exact ih0 _ _ _)
      | (with_reducible exact LeO.refl _)
      | (with_reducible exact LeO.none _)
      | (with_reducible refine LeO.ite ?_ ?_)
      | (with_reducible refine LeO.bind ?_ (fun _ => ?_))
      | exact ih0 _ _ _
      | exact LeO.none _
      | refine LeO.ite ?_ ?_
      | refine LeO.bind ?_ (fun _ => ?_)
def curtilagelaw14_LookupTwice.j0 : Nat → List (S32) → List Int → ByteArray → Bool → Bool → Option (Bool)
  | 0, _, _, _, _, _ => none
  | k + 1, x0, x1, x2, x7, x36 => if x36 = true then (some x7) else ((lookup_In.f k x0 x1 x2 (⟨#[]⟩ : ByteArray)).bind fun bt359 => ((some (([] : List Int) : List Int)).bind fun y361 => (if y361.length + x1.length < 17592186044416 then ((some (y361 ++ x1 : List Int)).bind fun y364 => (if y364.length + x1.length < 17592186044416 then ((lookup_In.f k x0 (y364 ++ x1) x2 (⟨#[]⟩ : ByteArray)).bind fun bt370 => ((lookup_In.f k x0 ([] : List Int) x2 (⟨#[]⟩ : ByteArray)).bind fun bt372 => ((lookup_All.f k x0 x1).bind fun t374 => ((some (([] : List Int) : List Int)).bind fun y377 => (if y377.length + x1.length < 17592186044416 then ((some (y377 ++ x1 : List Int)).bind fun y380 => (if y380.length + x1.length < 17592186044416 then ((lookup_All.f k x0 (y380 ++ x1)).bind fun t386 => ((lookup_All.f k x0 ([] : List Int)).bind fun t389 => (if x7 = true then (if bt359.1 = bt370.1 then (if bt359.2 = bt370.2 then (if bt372.1 = (-1) then (if bt372.2 = (-1) then ((curtilageref10_Texts.f k t374 t386).bind fun t392 => (if t392 = true then (some ((t389.length : Int) == 0)) else (some false))) else (some false)) else (some false)) else (some false)) else (some false)) else (some false)))) else (none))) else (none)))))) else (none))) else (none))))
def curtilagelaw14_LookupTwice.f (k : Nat) (l0 : List (S32)) (l1 : List Int) (a2 : ByteArray) : Option (Bool) := (curtilagelaw14_awake.f k).bind fun t356 => ((curtilageref14_Short.f k l0).bind fun t357 => ((curtilageref14_Right.f k l1 (l0.length : Int)).bind fun t358 => (if t357 = true then (if t358 = true then (curtilagelaw14_LookupTwice.j0 k l0 l1 a2 t356 (decide ((l1.length : Int) > 20))) else (curtilagelaw14_LookupTwice.j0 k l0 l1 a2 t356 true)) else (curtilagelaw14_LookupTwice.j0 k l0 l1 a2 t356 true))))
theorem curtilagelaw14_LookupTwice.mono_l : ∀ k, (∀ y0 y1 y2 y3 y4, LeO (curtilagelaw14_LookupTwice.j0 k y0 y1 y2 y3 y4) (curtilagelaw14_LookupTwice.j0 (k + 1) y0 y1 y2 y3 y4))
  | 0 => fun _ _ _ _ _ r h => by simp [curtilagelaw14_LookupTwice.j0] at h
  | k + 1 => by
    have ih0 := curtilagelaw14_LookupTwice.mono_l k
    · intro y0 y1 y2 y3 y4
      unfold curtilagelaw14_LookupTwice.j0
      repeat' first
      | (with_reducible exact ih0 _ _ _ _ _)
      | (with_reducible exact curtilagelaw14_awake.mono _)
      | (with_reducible exact curtilageref10_Texts.mono _ _ _)
      | (with_reducible exact curtilageref14_Right.mono _ _ _)
      | (with_reducible exact curtilageref14_Short.mono _ _)
      | (with_reducible exact lookup_All.mono _ _ _)
      | (with_reducible exact lookup_In.mono _ _ _ _ _)
      | (with_reducible exact LeO.refl _)
      | (with_reducible exact LeO.none _)
      | (with_reducible refine LeO.ite ?_ ?_)
      | (with_reducible refine LeO.bind ?_ (fun _ => ?_))
      | exact ih0 _ _ _ _ _
      | exact curtilagelaw14_awake.mono _
      | exact curtilageref10_Texts.mono _ _ _
      | exact curtilageref14_Right.mono _ _ _
      | exact curtilageref14_Short.mono _ _
      | exact lookup_All.mono _ _ _
      | exact lookup_In.mono _ _ _ _ _
      | exact LeO.none _
      | refine LeO.ite ?_ ?_
      | refine LeO.bind ?_ (fun _ => ?_)
theorem curtilagelaw14_LookupTwice.mono : ∀ a0 a1 a2 k, LeO (curtilagelaw14_LookupTwice.f k a0 a1 a2) (curtilagelaw14_LookupTwice.f (k + 1) a0 a1 a2) := by
  intro a0 a1 a2 k
  have ih0 := curtilagelaw14_LookupTwice.mono_l k
  unfold curtilagelaw14_LookupTwice.f
  repeat' first
      | (with_reducible exact ih0 _ _ _ _ _)
      | (with_reducible exact curtilagelaw14_awake.mono _)
      | (with_reducible exact curtilageref10_Texts.mono _ _ _)
      | (with_reducible exact curtilageref14_Right.mono _ _ _)
      | (with_reducible exact curtilageref14_Short.mono _ _)
      | (with_reducible exact lookup_All.mono _ _ _)
      | (with_reducible exact lookup_In.mono _ _ _ _ _)
      | (with_reducible exact LeO.refl _)
      | (with_reducible exact LeO.none _)
      | (with_reducible refine LeO.ite ?_ ?_)
      | (with_reducible refine LeO.bind ?_ (fun _ => ?_))
      | exact ih0 _ _ _ _ _
      | exact curtilagelaw14_awake.mono _
      | exact curtilageref10_Texts.mono _ _ _
      | exact curtilageref14_Right.mono _ _ _
      | exact curtilageref14_Short.mono _ _
      | exact lookup_All.mono _ _ _
      | exact lookup_In.mono _ _ _ _ _
      | exact LeO.none _
      | refine LeO.ite ?_ ?_
      | refine LeO.bind ?_ (fun _ => ?_)
end Go.Proofs.Ytdgmkmjmddjcfaa.P
