/- What functions of the program, and of its laws, give, each proved of its code by a walk; no condition. -/
import Derived.Test.YtccndffoljjadaaKAbiTextsPx0
namespace Go.Proofs.Ytccndffoljjadaa.P
open Go.RowKit Go.Proofs.YtccndffoljjadaaW.PrintWords Go.Proofs.YtccndffoljjadaaW.PrintLast Go.Proofs.YtccndffoljjadaaW.PrintMore
attribute [local go_sem] max2_int min2_int max_two min_two max_three min_three max_four min_four   -- for this text's walks alone
set_option linter.unusedVariables false
set_option linter.unusedSimpArgs false

-- NOT PRINTED: function 68 (slices_pdqsortOrdered_uint64)

-- NOT PRINTED: function 37 (slices_Sort_uint64_uint64)

-- NOT PRINTED: function 15 (tagmem_Mem_Pages)

-- NOT PRINTED: function 17 (curtilageref03_New)

def curtilageref03_wrong.f (a0 : Int) (a1 : Int) : Option (Bool) := if a1 < 1 then (some true) else (if a1 > 65536 then (some true) else (if a0 > 65535 then (some true) else (some (decide ((IntKind.u64.wrap (a0 + (IntKind.u64.wrap (a1)))) > 65536)))))
def curtilageref03_has.l0 : Nat → List Int → Int → Int → Option (Bool)
  | 0, _, _, _ => none
  | k + 1, x0, x1, x5 => if x5 < (x0.length : Int) then (if 0 ≤ x5 then (if (rd x0 x5) = x1 then (some true) else (curtilageref03_has.l0 k x0 x1 (wrap64 (x5 + 1)))) else (none)) else (some false)
def curtilageref03_has.f (k : Nat) (l0 : List Int) (a1 : Int) : Option (Bool) := curtilageref03_has.l0 k l0 a1 0
theorem curtilageref03_has.mono_l : ∀ k, (∀ y0 y1 y2, LeO (curtilageref03_has.l0 k y0 y1 y2) (curtilageref03_has.l0 (k + 1) y0 y1 y2))
  | 0 => fun _ _ _ r h => by simp [curtilageref03_has.l0] at h
  | k + 1 => by
    have ih0 := curtilageref03_has.mono_l k
    · intro y0 y1 y2
      unfold curtilageref03_has.l0
      repeat' first
      | (with_reducible exact ih0 _ _ _)
      | (with_reducible exact LeO.refl _)
      | (with_reducible exact LeO.none _)
      | (with_reducible refine LeO.ite ?_ ?_)
      | (with_reducible refine LeO.bind ?_ (fun _ => ?_))
      | exact ih0 _ _ _
      | exact LeO.none _
      | refine LeO.ite ?_ ?_
      | refine LeO.bind ?_ (fun _ => ?_)
theorem curtilageref03_has.mono : ∀ a0 a1 k, LeO (curtilageref03_has.f k a0 a1) (curtilageref03_has.f (k + 1) a0 a1) := by
  intro a0 a1 k
  have ih0 := curtilageref03_has.mono_l k
  unfold curtilageref03_has.f
  repeat' first
      | (with_reducible exact ih0 _ _ _)
      | (with_reducible exact LeO.refl _)
      | (with_reducible exact LeO.none _)
      | (with_reducible refine LeO.ite ?_ ?_)
      | (with_reducible refine LeO.bind ?_ (fun _ => ?_))
      | exact ih0 _ _ _
      | exact LeO.none _
      | refine LeO.ite ?_ ?_
      | refine LeO.bind ?_ (fun _ => ?_)
def curtilageref03_put.l0 : Nat → List Int → Int → List Int → Bool → Int → Option (List Int)
  | 0, _, _, _, _, _ => none
  | k + 1, x0, x1, x5, x6, x7 => if x7 < (x0.length : Int) then (if x6 = true then (if 0 ≤ x7 then (if x5.length < 17592186044416 then (curtilageref03_put.l0 k x0 x1 (x5 ++ [rd x0 x7]) x6 (wrap64 (x7 + 1))) else (none)) else (none)) else (if 0 ≤ x7 then (if (rd x0 x7) > x1 then (if x5.length < 17592186044416 then ((some (x5 ++ [x1] : List Int)).bind fun y327 => (if y327.length < 17592186044416 then (curtilageref03_put.l0 k x0 x1 (y327 ++ [rd x0 x7]) true (wrap64 (x7 + 1))) else (none))) else (none)) else (if x5.length < 17592186044416 then (curtilageref03_put.l0 k x0 x1 (x5 ++ [rd x0 x7]) x6 (wrap64 (x7 + 1))) else (none))) else (none))) else (if x6 = true then (some x5) else (if x5.length < 17592186044416 then (some (x5 ++ [x1])) else (none)))
def curtilageref03_put.f (k : Nat) (l0 : List Int) (a1 : Int) : Option (List Int) := curtilageref03_put.l0 k l0 a1 ([] : List Int) false 0
theorem curtilageref03_put.mono_l : ∀ k, (∀ y0 y1 y2 y3 y4, LeO (curtilageref03_put.l0 k y0 y1 y2 y3 y4) (curtilageref03_put.l0 (k + 1) y0 y1 y2 y3 y4))
  | 0 => fun _ _ _ _ _ r h => by simp [curtilageref03_put.l0] at h
  | k + 1 => by
    have ih0 := curtilageref03_put.mono_l k
    · intro y0 y1 y2 y3 y4
      unfold curtilageref03_put.l0
      repeat' first
      | (with_reducible exact ih0 _ _ _ _ _)
      | (with_reducible exact LeO.refl _)
      | (with_reducible exact LeO.none _)
      | (with_reducible refine LeO.ite ?_ ?_)
      | (with_reducible refine LeO.bind ?_ (fun _ => ?_))
      | exact ih0 _ _ _ _ _
      | exact LeO.none _
      | refine LeO.ite ?_ ?_
      | refine LeO.bind ?_ (fun _ => ?_)
theorem curtilageref03_put.mono : ∀ a0 a1 k, LeO (curtilageref03_put.f k a0 a1) (curtilageref03_put.f (k + 1) a0 a1) := by
  intro a0 a1 k
  have ih0 := curtilageref03_put.mono_l k
  unfold curtilageref03_put.f
  repeat' first
      | (with_reducible exact ih0 _ _ _ _ _)
      | (with_reducible exact LeO.refl _)
      | (with_reducible exact LeO.none _)
      | (with_reducible refine LeO.ite ?_ ?_)
      | (with_reducible refine LeO.bind ?_ (fun _ => ?_))
      | exact ih0 _ _ _ _ _
      | exact LeO.none _
      | refine LeO.ite ?_ ?_
      | refine LeO.bind ?_ (fun _ => ?_)
-- NOT PRINTED: function 19 (curtilageref03_Mem_Map)

mutual
def curtilageref19_texts.l0 : Nat → List ByteArray → Int → Option (Bool)
  | 0, _, _ => none
  | k + 1, x0, x3 => if x3 < (x0.length : Int) then (if 0 ≤ x3 then (if ((rdOf ByteArray.empty x0 x3).size : Int) > 200 then (some false) else (curtilageref19_texts.l1 k x0 x3 0)) else (none)) else (some (decide ((x0.length : Int) ≤ 8)))
def curtilageref19_texts.l1 : Nat → List ByteArray → Int → Int → Option (Bool)
  | 0, _, _, _ => none
  | k + 1, x0, x3, x4 => if 0 ≤ x3 then (if x3 < (x0.length : Int) then (if x4 < ((rdOf ByteArray.empty x0 x3).size : Int) then (if 0 ≤ x4 then (if (bt (rdOf ByteArray.empty x0 x3) x4) = 0 then (some false) else (curtilageref19_texts.l1 k x0 x3 (wrap64 (x4 + 1)))) else (none)) else (curtilageref19_texts.l0 k x0 (wrap64 (x3 + 1)))) else (none)) else (none)
end
def curtilageref19_texts.f (k : Nat) (l0 : List ByteArray) : Option (Bool) := curtilageref19_texts.l0 k l0 0
theorem curtilageref19_texts.mono_l : ∀ k, (∀ y0 y1, LeO (curtilageref19_texts.l0 k y0 y1) (curtilageref19_texts.l0 (k + 1) y0 y1)) ∧ (∀ y0 y1 y2, LeO (curtilageref19_texts.l1 k y0 y1 y2) (curtilageref19_texts.l1 (k + 1) y0 y1 y2))
  | 0 => ⟨fun _ _ r h => by simp [curtilageref19_texts.l0] at h, fun _ _ _ r h => by simp [curtilageref19_texts.l1] at h⟩
  | k + 1 => by
    obtain ⟨ih0, ih1⟩ := curtilageref19_texts.mono_l k
    refine ⟨?_, ?_⟩
    · intro y0 y1
      unfold curtilageref19_texts.l0
      repeat' first
      | (with_reducible exact ih0 _ _)
      | (with_reducible exact ih1 _ _ _)
      | (with_reducible exact LeO.refl _)
      | (with_reducible exact LeO.none _)
      | (with_reducible refine LeO.ite ?_ ?_)
      | (with_reducible refine LeO.bind ?_ (fun _ => ?_))
      | exact ih0 _ _
      | exact ih1 _ _ _
      | exact LeO.none _
      | refine LeO.ite ?_ ?_
      | refine LeO.bind ?_ (fun _ => ?_)
    · intro y0 y1 y2
      unfold curtilageref19_texts.l1
      repeat' first
      | (with_reducible exact ih0 _ _)
      | (with_reducible exact ih1 _ _ _)
      | (with_reducible exact LeO.refl _)
      | (with_reducible exact LeO.none _)
      | (with_reducible refine LeO.ite ?_ ?_)
      | (with_reducible refine LeO.bind ?_ (fun _ => ?_))
      | exact ih0 _ _
      | exact ih1 _ _ _
      | exact LeO.none _
      | refine LeO.ite ?_ ?_
      | refine LeO.bind ?_ (fun _ => ?_)
theorem curtilageref19_texts.mono : ∀ a0 k, LeO (curtilageref19_texts.f k a0) (curtilageref19_texts.f (k + 1) a0) := by
  intro a0 k
  obtain ⟨ih0, ih1⟩ := curtilageref19_texts.mono_l k
  unfold curtilageref19_texts.f
  repeat' first
      | (with_reducible exact ih0 _ _)
      | (with_reducible exact ih1 _ _ _)
      | (with_reducible exact LeO.refl _)
      | (with_reducible exact LeO.none _)
      | (with_reducible refine LeO.ite ?_ ?_)
      | (with_reducible refine LeO.bind ?_ (fun _ => ?_))
      | exact ih0 _ _
      | exact ih1 _ _ _
      | exact LeO.none _
      | refine LeO.ite ?_ ?_
      | refine LeO.bind ?_ (fun _ => ?_)
def curtilageref19_Right.l0 : Nat → List (S30) → Bool → Bool → Int → Option (Bool)
  | 0, _, _, _, _ => none
  | k + 1, x2, x7, x8, x9 => if x9 < (x2.length : Int) then (if 0 ≤ x9 then (if (rd_T30 x2 x9).f5 = true then (if (Go.bits .and .i64 ((rd_T30 x2 x9).f3) 96) > 0 then (some false) else (if (Go.bits .and .i64 ((rd_T30 x2 x9).f3) 6) = 6 then (some false) else (curtilageref19_Right.l0 k x2 x7 x8 (wrap64 (x9 + 1))))) else (curtilageref19_Right.l0 k x2 x7 x8 (wrap64 (x9 + 1)))) else (none)) else (if x7 = true then (if x8 = true then (some (decide ((x2.length : Int) ≤ 8))) else (some false)) else (some false))
def curtilageref19_Right.f (k : Nat) (l0 : List ByteArray) (l1 : List ByteArray) (l2 : List (S30)) : Option (Bool) := (curtilageref19_texts.f k l0).bind fun t349 => ((curtilageref19_texts.f k l1).bind fun t350 => (curtilageref19_Right.l0 k l2 t349 t350 0))
theorem curtilageref19_Right.mono_l : ∀ k, (∀ y0 y1 y2 y3, LeO (curtilageref19_Right.l0 k y0 y1 y2 y3) (curtilageref19_Right.l0 (k + 1) y0 y1 y2 y3))
  | 0 => fun _ _ _ _ r h => by simp [curtilageref19_Right.l0] at h
  | k + 1 => by
    have ih0 := curtilageref19_Right.mono_l k
    · intro y0 y1 y2 y3
      unfold curtilageref19_Right.l0
      repeat' first
      | (with_reducible exact ih0 _ _ _ _)
      | (with_reducible exact curtilageref19_texts.mono _ _)
      | (with_reducible exact LeO.refl _)
      | (with_reducible exact LeO.none _)
      | (with_reducible refine LeO.ite ?_ ?_)
      | (with_reducible refine LeO.bind ?_ (fun _ => ?_))
      | exact ih0 _ _ _ _
      | exact curtilageref19_texts.mono _ _
      | exact LeO.none _
      | refine LeO.ite ?_ ?_
      | refine LeO.bind ?_ (fun _ => ?_)
theorem curtilageref19_Right.mono : ∀ a0 a1 a2 k, LeO (curtilageref19_Right.f k a0 a1 a2) (curtilageref19_Right.f (k + 1) a0 a1 a2) := by
  intro a0 a1 a2 k
  have ih0 := curtilageref19_Right.mono_l k
  unfold curtilageref19_Right.f
  repeat' first
      | (with_reducible exact ih0 _ _ _ _)
      | (with_reducible exact curtilageref19_texts.mono _ _)
      | (with_reducible exact LeO.refl _)
      | (with_reducible exact LeO.none _)
      | (with_reducible refine LeO.ite ?_ ?_)
      | (with_reducible refine LeO.bind ?_ (fun _ => ?_))
      | exact ih0 _ _ _ _
      | exact curtilageref19_texts.mono _ _
      | exact LeO.none _
      | refine LeO.ite ?_ ?_
      | refine LeO.bind ?_ (fun _ => ?_)
end Go.Proofs.Ytccndffoljjadaa.P
