/- What functions of the program, and of its laws, give, each proved of its code by a walk; no condition. -/
import Derived.Test.YtlbfeklpncoccaaKTableLessPx0
import Derived.Test.YtlbfeklpncoccaaKTableLessPx16
import Derived.Test.YtlbfeklpncoccaaKTableLessSq
import Derived.Test.YtlbfeklpncoccaaKTableLessUsh
import Derived.Test.YtlbfeklpncoccaaKTableLessUs4
namespace Go.Proofs.Ytlbfeklpncoccaa.P
open Go.RowKit Go.Proofs.YtlbfeklpncoccaaW.PrintWords Go.Proofs.YtlbfeklpncoccaaW.PrintLast Go.Proofs.YtlbfeklpncoccaaW.PrintMore
attribute [local go_sem] max2_int min2_int max_two min_two max_three min_three max_four min_four   -- for this text's walks alone
set_option linter.unusedVariables false
set_option linter.unusedSimpArgs false

mutual
def curtilageref18_Right.j0 : Nat → List (S28) → List Int → List Int → List (S44) → Bool → Option (Bool)
  | 0, _, _, _, _, _ => none
  | k + 1, x0, x1, x2, x3, x34 => if x34 = true then (some false) else (curtilageref18_Right.l0 k x0 x1 x2 x3 0)
def curtilageref18_Right.l0 : Nat → List (S28) → List Int → List Int → List (S44) → Int → Option (Bool)
  | 0, _, _, _, _, _ => none
  | k + 1, x0, x1, x2, x3, x9 => if x9 < (x0.length : Int) then (if 0 ≤ x9 then ((curtilageref10_Check.f k ((rd_T28 x0 x9).f0) ((rd_T28 x0 x9).f1) ((rd_T28 x0 x9).f2) ((rd_T28 x0 x9).f3) ((rd_T28 x0 x9).f4) ((rd_T28 x0 x9).f5) ((rd_T28 x0 x9).f6)).bind fun t444 => (if t444 = 0 then (if x9 < (x1.length : Int) then (if (Int.tmod (rd x1 x9) 256) = 0 then (if (rd x1 x9) ≥ 16711680 then (some false) else (if x9 < (x2.length : Int) then (if (rd x2 x9) < 0 then (some false) else (if (rd x2 x9) > 63 then (some false) else (curtilageref18_Right.l0 k x0 x1 x2 x3 (wrap64 (x9 + 1))))) else (none))) else (some false)) else (none)) else (some false))) else (none)) else (curtilageref18_Right.l1 k x0 x3 0)
def curtilageref18_Right.l1 : Nat → List (S28) → List (S44) → Int → Option (Bool)
  | 0, _, _, _ => none
  | k + 1, x0, x3, x11 => if x11 < (x3.length : Int) then (if 0 ≤ x11 then (if ((rd_T44 x3 x11).f0) < 0 then (curtilageref18_Right.j3 k x0 x3 x11 true ((rd_T44 x3 x11).f0) ((rd_T44 x3 x11).f1) ((rd_T44 x3 x11).f2) ((rd_T44 x3 x11).f3)) else (if ((rd_T44 x3 x11).f0) ≥ (x0.length : Int) then (curtilageref18_Right.j3 k x0 x3 x11 true ((rd_T44 x3 x11).f0) ((rd_T44 x3 x11).f1) ((rd_T44 x3 x11).f2) ((rd_T44 x3 x11).f3)) else (if ((rd_T44 x3 x11).f1) < 0 then (curtilageref18_Right.j3 k x0 x3 x11 true ((rd_T44 x3 x11).f0) ((rd_T44 x3 x11).f1) ((rd_T44 x3 x11).f2) ((rd_T44 x3 x11).f3)) else (if 0 ≤ ((rd_T44 x3 x11).f0) then (if ((rd_T44 x3 x11).f0) < (x0.length : Int) then (curtilageref18_Right.j3 k x0 x3 x11 (decide (((rd_T44 x3 x11).f1) ≥ (((rd_T28 x0 ((rd_T44 x3 x11).f0)).f4).length : Int))) ((rd_T44 x3 x11).f0) ((rd_T44 x3 x11).f1) ((rd_T44 x3 x11).f2) ((rd_T44 x3 x11).f3)) else (none)) else (none))))) else (none)) else (some true)
def curtilageref18_Right.j3 : Nat → List (S28) → List (S44) → Int → Bool → Int → Int → Int → Int → Option (Bool)
  | 0, _, _, _, _, _, _, _, _ => none
  | k + 1, x0, x3, x11, x113, x451000, x451001, x451002, x451003 => if x113 = true then (some false) else (if x451002 = (-1) then (curtilageref18_Right.j4 k x0 x3 x11 (x451003 == (-1)) x451000 x451001 x451002 x451003) else (curtilageref18_Right.j4 k x0 x3 x11 false x451000 x451001 x451002 x451003))
def curtilageref18_Right.j4 : Nat → List (S28) → List (S44) → Int → Bool → Int → Int → Int → Int → Option (Bool)
  | 0, _, _, _, _, _, _, _, _ => none
  | k + 1, x0, x3, x11, x121, x451000, x451001, x451002, x451003 => if x121 = true then (curtilageref18_Right.l1 k x0 x3 (wrap64 (x11 + 1))) else (if x451002 < 0 then (some false) else (if x451002 ≥ (x0.length : Int) then (some false) else (if x451003 < 0 then (some false) else (if 0 ≤ x451002 then (if x451002 < (x0.length : Int) then (if x451003 ≥ (((rd_T28 x0 x451002).f3).length : Int) then (some false) else (if 0 ≤ x451003 then (if x451003 < (((rd_T28 x0 x451002).f3).length : Int) then (if ((rd_T35 ((rd_T28 x0 x451002).f3) x451003).f7 = true) then (curtilageref18_Right.l1 k x0 x3 (wrap64 (x11 + 1))) else (some false)) else (none)) else (none))) else (none)) else (none)))))
end
def curtilageref18_Right.f (k : Nat) (l0 : List (S28)) (l1 : List Int) (l2 : List Int) (l3 : List (S44)) : Option (Bool) := if (l0.length : Int) > 8 then (curtilageref18_Right.j0 k l0 l1 l2 l3 true) else (if (l1.length : Int) = (l0.length : Int) then (if (l2.length : Int) = (l0.length : Int) then (curtilageref18_Right.j0 k l0 l1 l2 l3 (decide ((l3.length : Int) > 100))) else (curtilageref18_Right.j0 k l0 l1 l2 l3 true)) else (curtilageref18_Right.j0 k l0 l1 l2 l3 true))
theorem curtilageref18_Right.mono_l : ∀ k, (∀ y0 y1 y2 y3 y4, LeO (curtilageref18_Right.j0 k y0 y1 y2 y3 y4) (curtilageref18_Right.j0 (k + 1) y0 y1 y2 y3 y4)) ∧ (∀ y0 y1 y2 y3 y4, LeO (curtilageref18_Right.l0 k y0 y1 y2 y3 y4) (curtilageref18_Right.l0 (k + 1) y0 y1 y2 y3 y4)) ∧ (∀ y0 y1 y2, LeO (curtilageref18_Right.l1 k y0 y1 y2) (curtilageref18_Right.l1 (k + 1) y0 y1 y2)) ∧ (∀ y0 y1 y2 y3 y4 y5 y6 y7, LeO (curtilageref18_Right.j3 k y0 y1 y2 y3 y4 y5 y6 y7) (curtilageref18_Right.j3 (k + 1) y0 y1 y2 y3 y4 y5 y6 y7)) ∧ (∀ y0 y1 y2 y3 y4 y5 y6 y7, LeO (curtilageref18_Right.j4 k y0 y1 y2 y3 y4 y5 y6 y7) (curtilageref18_Right.j4 (k + 1) y0 y1 y2 y3 y4 y5 y6 y7))
  | 0 => ⟨fun _ _ _ _ _ r h => by simp [curtilageref18_Right.j0] at h, fun _ _ _ _ _ r h => by simp [curtilageref18_Right.l0] at h, fun _ _ _ r h => by simp [curtilageref18_Right.l1] at h, fun _ _ _ _ _ _ _ _ r h => by simp [curtilageref18_Right.j3] at h, fun _ _ _ _ _ _ _ _ r h => by simp [curtilageref18_Right.j4] at h⟩
  | k + 1 => by
    obtain ⟨ih0, ih1, ih2, ih3, ih4⟩ := curtilageref18_Right.mono_l k
    refine ⟨?_, ?_, ?_, ?_, ?_⟩
    · intro y0 y1 y2 y3 y4
      unfold curtilageref18_Right.j0
      repeat' first
      | (with_reducible exact ih0 _ _ _ _ _)
      | (with_reducible exact ih1 _ _ _ _ _)
      | (with_reducible exact ih2 _ _ _)
      | (with_reducible exact ih3 _ _ _ _ _ _ _ _)
      | (with_reducible exact ih4 _ _ _ _ _ _ _ _)
      | (with_reducible exact curtilageref10_Check.mono _ _ _ _ _ _ _ _)
      | (with_reducible exact LeO.refl _)
      | (with_reducible exact LeO.none _)
      | (with_reducible refine LeO.ite ?_ ?_)
      | (with_reducible refine LeO.bind ?_ (fun _ => ?_))
      | exact ih0 _ _ _ _ _
      | exact ih1 _ _ _ _ _
      | exact ih2 _ _ _
      | exact ih3 _ _ _ _ _ _ _ _
      | exact ih4 _ _ _ _ _ _ _ _
      | exact curtilageref10_Check.mono _ _ _ _ _ _ _ _
      | exact LeO.none _
      | refine LeO.ite ?_ ?_
      | refine LeO.bind ?_ (fun _ => ?_)
    · intro y0 y1 y2 y3 y4
      unfold curtilageref18_Right.l0
      repeat' first
      | (with_reducible exact ih0 _ _ _ _ _)
      | (with_reducible exact ih1 _ _ _ _ _)
      | (with_reducible exact ih2 _ _ _)
      | (with_reducible exact ih3 _ _ _ _ _ _ _ _)
      | (with_reducible exact ih4 _ _ _ _ _ _ _ _)
      | (with_reducible exact curtilageref10_Check.mono _ _ _ _ _ _ _ _)
      | (with_reducible exact LeO.refl _)
      | (with_reducible exact LeO.none _)
      | (with_reducible refine LeO.ite ?_ ?_)
      | (with_reducible refine LeO.bind ?_ (fun _ => ?_))
      | exact ih0 _ _ _ _ _
      | exact ih1 _ _ _ _ _
      | exact ih2 _ _ _
      | exact ih3 _ _ _ _ _ _ _ _
      | exact ih4 _ _ _ _ _ _ _ _
      | exact curtilageref10_Check.mono _ _ _ _ _ _ _ _
      | exact LeO.none _
      | refine LeO.ite ?_ ?_
      | refine LeO.bind ?_ (fun _ => ?_)
    · intro y0 y1 y2
      unfold curtilageref18_Right.l1
      repeat' first
      | (with_reducible exact ih0 _ _ _ _ _)
      | (with_reducible exact ih1 _ _ _ _ _)
      | (with_reducible exact ih2 _ _ _)
      | (with_reducible exact ih3 _ _ _ _ _ _ _ _)
      | (with_reducible exact ih4 _ _ _ _ _ _ _ _)
      | (with_reducible exact curtilageref10_Check.mono _ _ _ _ _ _ _ _)
      | (with_reducible exact LeO.refl _)
      | (with_reducible exact LeO.none _)
      | (with_reducible refine LeO.ite ?_ ?_)
      | (with_reducible refine LeO.bind ?_ (fun _ => ?_))
      | exact ih0 _ _ _ _ _
      | exact ih1 _ _ _ _ _
      | exact ih2 _ _ _
      | exact ih3 _ _ _ _ _ _ _ _
      | exact ih4 _ _ _ _ _ _ _ _
      | exact curtilageref10_Check.mono _ _ _ _ _ _ _ _
      | exact LeO.none _
      | refine LeO.ite ?_ ?_
      | refine LeO.bind ?_ (fun _ => ?_)
    · intro y0 y1 y2 y3 y4 y5 y6 y7
      unfold curtilageref18_Right.j3
      repeat' first
      | (with_reducible exact ih0 _ _ _ _ _)
      | (with_reducible exact ih1 _ _ _ _ _)
      | (with_reducible exact ih2 _ _ _)
      | (with_reducible exact ih3 _ _ _ _ _ _ _ _)
      | (with_reducible exact ih4 _ _ _ _ _ _ _ _)
      | (with_reducible exact curtilageref10_Check.mono _ _ _ _ _ _ _ _)
      | (with_reducible exact LeO.refl _)
      | (with_reducible exact LeO.none _)
      | (with_reducible refine LeO.ite ?_ ?_)
      | (with_reducible refine LeO.bind ?_ (fun _ => ?_))
      | exact ih0 _ _ _ _ _
      | exact ih1 _ _ _ _ _
      | exact ih2 _ _ _
      | exact ih3 _ _ _ _ _ _ _ _
      | exact ih4 _ _ _ _ _ _ _ _
      | exact curtilageref10_Check.mono _ _ _ _ _ _ _ _
      | exact LeO.none _
      | refine LeO.ite ?_ ?_
      | refine LeO.bind ?_ (fun _ => ?_)
    · intro y0 y1 y2 y3 y4 y5 y6 y7
      unfold curtilageref18_Right.j4
      repeat' first
      | (with_reducible exact ih0 _ _ _ _ _)
      | (with_reducible exact ih1 _ _ _ _ _)
      | (with_reducible exact ih2 _ _ _)
      | (with_reducible exact ih3 _ _ _ _ _ _ _ _)
      | (with_reducible exact ih4 _ _ _ _ _ _ _ _)
      | (with_reducible exact curtilageref10_Check.mono _ _ _ _ _ _ _ _)
      | (with_reducible exact LeO.refl _)
      | (with_reducible exact LeO.none _)
      | (with_reducible refine LeO.ite ?_ ?_)
      | (with_reducible refine LeO.bind ?_ (fun _ => ?_))
      | exact ih0 _ _ _ _ _
      | exact ih1 _ _ _ _ _
      | exact ih2 _ _ _
      | exact ih3 _ _ _ _ _ _ _ _
      | exact ih4 _ _ _ _ _ _ _ _
      | exact curtilageref10_Check.mono _ _ _ _ _ _ _ _
      | exact LeO.none _
      | refine LeO.ite ?_ ?_
      | refine LeO.bind ?_ (fun _ => ?_)
theorem curtilageref18_Right.mono : ∀ a0 a1 a2 a3 k, LeO (curtilageref18_Right.f k a0 a1 a2 a3) (curtilageref18_Right.f (k + 1) a0 a1 a2 a3) := by
  intro a0 a1 a2 a3 k
  obtain ⟨ih0, ih1, ih2, ih3, ih4⟩ := curtilageref18_Right.mono_l k
  unfold curtilageref18_Right.f
  repeat' first
      | (with_reducible exact ih0 _ _ _ _ _)
      | (with_reducible exact ih1 _ _ _ _ _)
      | (with_reducible exact ih2 _ _ _)
      | (with_reducible exact ih3 _ _ _ _ _ _ _ _)
      | (with_reducible exact ih4 _ _ _ _ _ _ _ _)
      | (with_reducible exact curtilageref10_Check.mono _ _ _ _ _ _ _ _)
      | (with_reducible exact LeO.refl _)
      | (with_reducible exact LeO.none _)
      | (with_reducible refine LeO.ite ?_ ?_)
      | (with_reducible refine LeO.bind ?_ (fun _ => ?_))
      | exact ih0 _ _ _ _ _
      | exact ih1 _ _ _ _ _
      | exact ih2 _ _ _
      | exact ih3 _ _ _ _ _ _ _ _
      | exact ih4 _ _ _ _ _ _ _ _
      | exact curtilageref10_Check.mono _ _ _ _ _ _ _ _
      | exact LeO.none _
      | refine LeO.ite ?_ ?_
      | refine LeO.bind ?_ (fun _ => ?_)
set_option maxHeartbeats 8000000 in
set_option maxRecDepth 100000 in
theorem curtilageref18_Right.calls (k : Nat) (A0 : Option Addr) (c0 : Nat) (l0 : List (S28)) (A1 : Option Addr) (c1 : Nat) (l1 : List Int) (A2 : Option Addr) (c2 : Nat) (l2 : List Int) (A3 : Option Addr) (c3 : Nat) (l3 : List (S44)) (r : Bool) (w : World) (hr0 : Kd.C k28 w A0 l0.length l0) (hc0 : l0.length ≤ c0) (hr1 : Kd.C (Kd.int .u64) w A1 l1.length l1) (hc1 : l1.length ≤ c1) (hr2 : Kd.C (Kd.int .i64) w A2 l2.length l2) (hc2 : l2.length ≤ c2) (hr3 : Kd.C k44 w A3 l3.length l3) (hc3 : l3.length ≤ c3) (h : curtilageref18_Right.f k l0 l1 l2 l3 = some r) :
  Calls Try.prog 7 #[.slice A0 l0.length c0, .slice A1 l1.length c1, .slice A2 l2.length c2, .slice A3 l3.length c3] w fun e w' => e = .returned (.bool r) ∧ Below w.heap.size w w' := by
 have hu28 := Try.underlying28
 have hu44 := Try.underlying44
 have HR0 := am hr0
 have HC0 := am hc0
 clear hr0 hc0
 have HR1 := am hr1
 have HC1 := am hc1
 clear hr1 hc1
 have HR2 := am hr2
 have HC2 := am hc2
 clear hr2 hc2
 have HR3 := am hr3
 have HC3 := am hc3
 clear hr3 hc3
 have HB := am (Below.refl w.heap.size w)
 have H : (if (l0.length : Int) > 8 then (curtilageref18_Right.j0 k l0 l1 l2 l3 true) else (if (l1.length : Int) = (l0.length : Int) then (if (l2.length : Int) = (l0.length : Int) then (curtilageref18_Right.j0 k l0 l1 l2 l3 (decide ((l3.length : Int) > 100))) else (curtilageref18_Right.j0 k l0 l1 l2 l3 true)) else (curtilageref18_Right.j0 k l0 l1 l2 l3 true))) = some r := h
 clear h
 have HC5 := am H
 clear H
 go_enter Try.func7, Try.ntmps7
 go_upto_region 1 with (fail)
 repeat (go_quiet (fail); go_upto_region 1 with (fail))
 go_cut [34] (fun v34 wc => ∃ (kq : Nat) (x34_4 : Bool), v34 = .bool x34_4 ∧ Aside0 (curtilageref18_Right.j0 kq l0 l1 l2 l3 x34_4 = some r) ∧ Aside0 (kq ≤ k) ∧ Aside0 (Below w.heap.size w wc))
 case first =>
  have H := HC5.out
  clear HC5
  by_cases c6 : (l0.length : Int) > 8
  ·rw [if_pos c6] at H
   have c6b0 : decide (8 < (l0.length : Int)) = true := decide_eq_true c6
   have c6b1 : decide (8 < l0.length) = true := decide_eq_true (by omega)
   clear c6
   (first | rw [c6b0] | (simp only [i64_w, i32_w]; rw [c6b0]) | skip)
   have H' := am H
   clear H
   go_wp2
   repeat (go_quiet (fail); try go_wp2)
   go_meet
   case rel => exact ⟨_, (true), uf, H', ⟨by first | omega | exact Nat.le_refl _⟩, ⟨uc HB.out⟩⟩
  ·rw [if_neg c6] at H
   have c6b0 : decide (8 < (l0.length : Int)) = false := decide_eq_false c6
   have c6b1 : decide (8 < l0.length) = false := decide_eq_false (by omega)
   clear c6
   (first | rw [c6b0] | (simp only [i64_w, i32_w]; rw [c6b0]) | skip)
   by_cases c7 : (l1.length : Int) = (l0.length : Int)
   ·rw [if_pos c7] at H
    have c7b0 := beq_iff_eq.mpr c7
    have c7b1 := bne_eq_false_iff_eq.mpr c7
    have c7b2 : (l1.length == l0.length) = true := by first | simpa using c7 | (simp at c7 ⊢; omega)
    clear c7
    by_cases c8 : (l2.length : Int) = (l0.length : Int)
    ·rw [if_pos c8] at H
     have c8b0 := beq_iff_eq.mpr c8
     have c8b1 := bne_eq_false_iff_eq.mpr c8
     have c8b2 : (l2.length == l0.length) = true := by first | simpa using c8 | (simp at c8 ⊢; omega)
     clear c8
     have H' := am H
     clear H
     go_wp2
     repeat (go_quiet (fail); try go_wp2)
     go_meet
     case rel => exact ⟨_, (decide ((l3.length : Int) > 100)), uf, H', ⟨by first | omega | exact Nat.le_refl _⟩, ⟨uc HB.out⟩⟩
    ·rw [if_neg c8] at H
     have c8b0 := beq_eq_false_iff_ne.mpr c8
     have c8b1 := bne_iff_ne.mpr c8
     have c8b2 : (l2.length == l0.length) = false := by first | simpa using c8 | (simp at c8 ⊢; omega)
     have H' := am H
     clear H
     go_wp2
     repeat (go_quiet (fail); try go_wp2)
     go_meet
     case rel => exact ⟨_, (true), uf, H', ⟨by first | omega | exact Nat.le_refl _⟩, ⟨uc HB.out⟩⟩
   ·rw [if_neg c7] at H
    have c7b0 := beq_eq_false_iff_ne.mpr c7
    have c7b1 := bne_iff_ne.mpr c7
    have c7b2 : (l1.length == l0.length) = false := by first | simpa using c7 | (simp at c7 ⊢; omega)
    have H' := am H
    clear H
    go_wp2
    repeat (go_quiet (fail); try go_wp2)
    go_meet
    case rel => exact ⟨_, (true), uf, H', ⟨by first | omega | exact Nat.le_refl _⟩, ⟨uc HB.out⟩⟩
 case rest =>
  clear HC5
  obtain ⟨kq, x34_4, rfl, HA, HJ4, HB⟩ := hcut
  cases kq with
  | zero => exact absurd HA.out (by simp [curtilageref18_Right.j0])
  | succ kj4 =>
   have H := HA.out
   clear HA
   simp only [curtilageref18_Right.j0] at H
   by_cases c9 : x34_4 = true
   ·subst c9
    have H1 : (some false) = some r := by rw [if_pos rfl] at H; exact H
    clear H
    have H := H1
    clear H1
    obtain rfl := Option.some.inj H
    go_wp2
    repeat (go_quiet (fail); try go_wp2)
    go_ret
    exact ur (uc HB.out)
   ·replace c9 := Bool.eq_false_iff.mpr c9
    subst c9
    have H1 : (curtilageref18_Right.l0 kj4 l0 l1 l2 l3 0) = some r := by rw [if_neg (show ¬ (false = true) by decide)] at H; exact H
    clear H
    have H := H1
    clear H1
    have H' := am H
    clear H
    go_wp2
    repeat (go_quiet (fail); try go_wp2)
    go_loopg [9] kj4 (fun kq v9 w' => ∃ (x9_2 : Int), v9 = .int .i64 x9_2 ∧ Aside0 (curtilageref18_Right.l0 kq l0 l1 l2 l3 x9_2 = some r) ∧ Aside0 (kq ≤ kj4) ∧ Aside0 (Below w.heap.size w w'))
    case atStart => exact ⟨(0), uf, H', ⟨Nat.le_refl _⟩, ⟨uc HB.out⟩⟩
    case round =>
     clear H'
     obtain ⟨x9_2, rfl, HA, HK2, HB⟩ := hrel
     cases gk with
     | zero => exact absurd HA.out (by simp [curtilageref18_Right.l0])
     | succ k2 =>
      have H := HA.out
      clear HA
      simp only [curtilageref18_Right.l0] at H
      by_cases c10 : x9_2 < (l0.length : Int)
      ·rw [if_pos c10] at H
       have c10b0 := decide_eq_true c10
       clear c10
       obtain ⟨c11, H⟩ := ic H
       have c11b0 : decide (0 ≤ x9_2) = true := decide_eq_true c11
       clear c11
       replace H := Option.bind_eq_some_iff.mp H
       obtain ⟨t444, A120, H⟩ := H
       replace H : (if t444 = 0 then (if x9_2 < (l1.length : Int) then (if (Int.tmod (rd l1 x9_2) 256) = 0 then (if (rd l1 x9_2) ≥ 16711680 then (some false) else (if x9_2 < (l2.length : Int) then (if (rd l2 x9_2) < 0 then (some false) else (if (rd l2 x9_2) > 63 then (some false) else (curtilageref18_Right.l0 k2 l0 l1 l2 l3 (wrap64 (x9_2 + 1))))) else (none))) else (some false)) else (none)) else (some false)) = some r := H
       have A12 := am A120
       clear A120
       by_cases c13 : t444 = 0
       ·rw [if_pos c13] at H
        have c13b0 := beq_iff_eq.mpr c13
        have c13b1 := bne_eq_false_iff_eq.mpr c13
        clear c13
        obtain ⟨c14, H⟩ := ic H
        have c14b0 : decide (x9_2 < (l1.length : Int)) = true := decide_eq_true c14
        clear c14
        by_cases c15 : (Int.tmod (rd l1 x9_2) 256) = 0
        ·rw [if_pos c15] at H
         have c15b0 := beq_iff_eq.mpr c15
         have c15b1 := bne_eq_false_iff_eq.mpr c15
         clear c15
         by_cases c16 : (rd l1 x9_2) ≥ 16711680
         ·rw [if_pos c16] at H
          have c16b0 : decide (16711680 ≤ (rd l1 x9_2)) = true := decide_eq_true c16
          clear c16
          obtain rfl := Option.some.inj H
          have p443 : 0 ≤ (x9_2 : Int) := ud
          have q443 : x9_2 < (l0.length : Int) := ud
          obtain ⟨ad443, A443_1, c443_1, A443_2, c443_2, A443_3, c443_3, A443_4, c443_4, A443_5, c443_5, A443_6, c443_6, e443, hx443_0, hx443_1, hx443_2, hx443_3, hx443_4, hx443_5, hx443_6, hl443_1, hi443_1, hl443_2, hi443_2, hl443_3, hi443_3, hl443_4, hi443_4, hl443_5, hi443_5, hl443_6, hi443_6⟩ := at_T28 HR0.out x9_2 p443 q443
          cases e443
          replace hx443_0 := bcel HB hx443_0
          replace hx443_1 := bcel HB hx443_1
          replace hx443_2 := bcel HB hx443_2
          replace hx443_3 := bcel HB hx443_3
          replace hx443_4 := bcel HB hx443_4
          replace hx443_5 := bcel HB hx443_5
          replace hx443_6 := bcel HB hx443_6
          have HR443_1 := am hi443_1
          have HC443_1 := am hl443_1
          clear hi443_1 hl443_1
          have HR443_2 := am hi443_2
          have HC443_2 := am hl443_2
          clear hi443_2 hl443_2
          have HR443_3 := am hi443_3
          have HC443_3 := am hl443_3
          clear hi443_3 hl443_3
          have HR443_4 := am hi443_4
          have HC443_4 := am hl443_4
          clear hi443_4 hl443_4
          have HR443_5 := am hi443_5
          have HC443_5 := am hl443_5
          clear hi443_5 hl443_5
          have HR443_6 := am hi443_6
          have HC443_6 := am hl443_6
          clear hi443_6 hl443_6
          replace p443 := eq_true p443
          replace q443 := eq_true q443
          go_wp2_with (first | (go_at_call 22; (with_reducible refine (curtilageref10_Check.calls k2 ((rd_T28 l0 x9_2).f0) _ _ ((rd_T28 l0 x9_2).f1) _ _ ((rd_T28 l0 x9_2).f2) _ _ ((rd_T28 l0 x9_2).f3) _ _ ((rd_T28 l0 x9_2).f4) _ _ ((rd_T28 l0 x9_2).f5) _ _ ((rd_T28 l0 x9_2).f6) t444 _ ?side1 ?side2 ?side3 ?side4 ?side5 ?side6 ?side7 ?side8 ?side9 ?side10 ?side11 ?side12 A12.out).mono ?_); (case side1 => exact us (Kd.C_below HR443_1.out HB.out)); (case side2 => exact HC443_1.out); (case side3 => exact us (Kd.C_below HR443_2.out HB.out)); (case side4 => exact HC443_2.out); (case side5 => exact us (Kd.C_below HR443_3.out HB.out)); (case side6 => exact HC443_3.out); (case side7 => exact us (Kd.C_below HR443_4.out HB.out)); (case side8 => exact HC443_4.out); (case side9 => exact us (Kd.C_below HR443_5.out HB.out)); (case side10 => exact HC443_5.out); (case side11 => exact us (Kd.C_below HR443_6.out HB.out)); (case side12 => exact HC443_6.out); rintro e w17 ⟨rfl, hb⟩; have n0_ := bs HB hb; revert n0_; clear HB; intro HB; (try clear hb); have p445 : 0 ≤ (x9_2 : Int) := ud; have q445 : x9_2 < (l1.length : Int) := ud; obtain ⟨ad445, e445, hx445_0⟩ := Kd.at_int HR1.out x9_2 p445 q445; cases e445; replace hx445_0 := bcel HB hx445_0; replace p445 := eq_true p445; replace q445 := eq_true q445; have p446 : 0 ≤ (x9_2 : Int) := ud; have q446 : x9_2 < (l1.length : Int) := ud; obtain ⟨ad446, e446, hx446_0⟩ := Kd.at_int HR1.out x9_2 p446 q446; obtain rfl : ad445 = ad446 := (by injection e446); replace hx446_0 := bcel HB hx446_0; replace p446 := eq_true p446; replace q446 := eq_true q446))
          repeat (go_quiet (first | (go_at_call 22; (with_reducible refine (curtilageref10_Check.calls k2 ((rd_T28 l0 x9_2).f0) _ _ ((rd_T28 l0 x9_2).f1) _ _ ((rd_T28 l0 x9_2).f2) _ _ ((rd_T28 l0 x9_2).f3) _ _ ((rd_T28 l0 x9_2).f4) _ _ ((rd_T28 l0 x9_2).f5) _ _ ((rd_T28 l0 x9_2).f6) t444 _ ?side1 ?side2 ?side3 ?side4 ?side5 ?side6 ?side7 ?side8 ?side9 ?side10 ?side11 ?side12 A12.out).mono ?_); (case side1 => exact us (Kd.C_below HR443_1.out HB.out)); (case side2 => exact HC443_1.out); (case side3 => exact us (Kd.C_below HR443_2.out HB.out)); (case side4 => exact HC443_2.out); (case side5 => exact us (Kd.C_below HR443_3.out HB.out)); (case side6 => exact HC443_3.out); (case side7 => exact us (Kd.C_below HR443_4.out HB.out)); (case side8 => exact HC443_4.out); (case side9 => exact us (Kd.C_below HR443_5.out HB.out)); (case side10 => exact HC443_5.out); (case side11 => exact us (Kd.C_below HR443_6.out HB.out)); (case side12 => exact HC443_6.out); rintro e w17 ⟨rfl, hb⟩; have n0_ := bs HB hb; revert n0_; clear HB; intro HB; (try clear hb); have p445 : 0 ≤ (x9_2 : Int) := ud; have q445 : x9_2 < (l1.length : Int) := ud; obtain ⟨ad445, e445, hx445_0⟩ := Kd.at_int HR1.out x9_2 p445 q445; cases e445; replace hx445_0 := bcel HB hx445_0; replace p445 := eq_true p445; replace q445 := eq_true q445; have p446 : 0 ≤ (x9_2 : Int) := ud; have q446 : x9_2 < (l1.length : Int) := ud; obtain ⟨ad446, e446, hx446_0⟩ := Kd.at_int HR1.out x9_2 p446 q446; obtain rfl : ad445 = ad446 := (by injection e446); replace hx446_0 := bcel HB hx446_0; replace p446 := eq_true p446; replace q446 := eq_true q446)); try go_wp2_with (first | (go_at_call 22; (with_reducible refine (curtilageref10_Check.calls k2 ((rd_T28 l0 x9_2).f0) _ _ ((rd_T28 l0 x9_2).f1) _ _ ((rd_T28 l0 x9_2).f2) _ _ ((rd_T28 l0 x9_2).f3) _ _ ((rd_T28 l0 x9_2).f4) _ _ ((rd_T28 l0 x9_2).f5) _ _ ((rd_T28 l0 x9_2).f6) t444 _ ?side1 ?side2 ?side3 ?side4 ?side5 ?side6 ?side7 ?side8 ?side9 ?side10 ?side11 ?side12 A12.out).mono ?_); (case side1 => exact us (Kd.C_below HR443_1.out HB.out)); (case side2 => exact HC443_1.out); (case side3 => exact us (Kd.C_below HR443_2.out HB.out)); (case side4 => exact HC443_2.out); (case side5 => exact us (Kd.C_below HR443_3.out HB.out)); (case side6 => exact HC443_3.out); (case side7 => exact us (Kd.C_below HR443_4.out HB.out)); (case side8 => exact HC443_4.out); (case side9 => exact us (Kd.C_below HR443_5.out HB.out)); (case side10 => exact HC443_5.out); (case side11 => exact us (Kd.C_below HR443_6.out HB.out)); (case side12 => exact HC443_6.out); rintro e w17 ⟨rfl, hb⟩; have n0_ := bs HB hb; revert n0_; clear HB; intro HB; (try clear hb); have p445 : 0 ≤ (x9_2 : Int) := ud; have q445 : x9_2 < (l1.length : Int) := ud; obtain ⟨ad445, e445, hx445_0⟩ := Kd.at_int HR1.out x9_2 p445 q445; cases e445; replace hx445_0 := bcel HB hx445_0; replace p445 := eq_true p445; replace q445 := eq_true q445; have p446 : 0 ≤ (x9_2 : Int) := ud; have q446 : x9_2 < (l1.length : Int) := ud; obtain ⟨ad446, e446, hx446_0⟩ := Kd.at_int HR1.out x9_2 p446 q446; obtain rfl : ad445 = ad446 := (by injection e446); replace hx446_0 := bcel HB hx446_0; replace p446 := eq_true p446; replace q446 := eq_true q446)))
          go_ret
          exact ur (uc HB.out)
         ·rw [if_neg c16] at H
          have c16b0 : decide (16711680 ≤ (rd l1 x9_2)) = false := decide_eq_false c16
          clear c16
          obtain ⟨c18, H⟩ := ic H
          have c18b0 : decide (x9_2 < (l2.length : Int)) = true := decide_eq_true c18
          clear c18
          by_cases c19 : (rd l2 x9_2) < 0
          ·rw [if_pos c19] at H
           have c19b0 := decide_eq_true c19
           clear c19
           obtain rfl := Option.some.inj H
           have p443 : 0 ≤ (x9_2 : Int) := ud
           have q443 : x9_2 < (l0.length : Int) := ud
           obtain ⟨ad443, A443_1, c443_1, A443_2, c443_2, A443_3, c443_3, A443_4, c443_4, A443_5, c443_5, A443_6, c443_6, e443, hx443_0, hx443_1, hx443_2, hx443_3, hx443_4, hx443_5, hx443_6, hl443_1, hi443_1, hl443_2, hi443_2, hl443_3, hi443_3, hl443_4, hi443_4, hl443_5, hi443_5, hl443_6, hi443_6⟩ := at_T28 HR0.out x9_2 p443 q443
           cases e443
           replace hx443_0 := bcel HB hx443_0
           replace hx443_1 := bcel HB hx443_1
           replace hx443_2 := bcel HB hx443_2
           replace hx443_3 := bcel HB hx443_3
           replace hx443_4 := bcel HB hx443_4
           replace hx443_5 := bcel HB hx443_5
           replace hx443_6 := bcel HB hx443_6
           have HR443_1 := am hi443_1
           have HC443_1 := am hl443_1
           clear hi443_1 hl443_1
           have HR443_2 := am hi443_2
           have HC443_2 := am hl443_2
           clear hi443_2 hl443_2
           have HR443_3 := am hi443_3
           have HC443_3 := am hl443_3
           clear hi443_3 hl443_3
           have HR443_4 := am hi443_4
           have HC443_4 := am hl443_4
           clear hi443_4 hl443_4
           have HR443_5 := am hi443_5
           have HC443_5 := am hl443_5
           clear hi443_5 hl443_5
           have HR443_6 := am hi443_6
           have HC443_6 := am hl443_6
           clear hi443_6 hl443_6
           replace p443 := eq_true p443
           replace q443 := eq_true q443
           go_wp2_with (first | (go_at_call 22; (with_reducible refine (curtilageref10_Check.calls k2 ((rd_T28 l0 x9_2).f0) _ _ ((rd_T28 l0 x9_2).f1) _ _ ((rd_T28 l0 x9_2).f2) _ _ ((rd_T28 l0 x9_2).f3) _ _ ((rd_T28 l0 x9_2).f4) _ _ ((rd_T28 l0 x9_2).f5) _ _ ((rd_T28 l0 x9_2).f6) t444 _ ?side1 ?side2 ?side3 ?side4 ?side5 ?side6 ?side7 ?side8 ?side9 ?side10 ?side11 ?side12 A12.out).mono ?_); (case side1 => exact us (Kd.C_below HR443_1.out HB.out)); (case side2 => exact HC443_1.out); (case side3 => exact us (Kd.C_below HR443_2.out HB.out)); (case side4 => exact HC443_2.out); (case side5 => exact us (Kd.C_below HR443_3.out HB.out)); (case side6 => exact HC443_3.out); (case side7 => exact us (Kd.C_below HR443_4.out HB.out)); (case side8 => exact HC443_4.out); (case side9 => exact us (Kd.C_below HR443_5.out HB.out)); (case side10 => exact HC443_5.out); (case side11 => exact us (Kd.C_below HR443_6.out HB.out)); (case side12 => exact HC443_6.out); rintro e w20 ⟨rfl, hb⟩; have n0_ := bs HB hb; revert n0_; clear HB; intro HB; (try clear hb); have p445 : 0 ≤ (x9_2 : Int) := ud; have q445 : x9_2 < (l1.length : Int) := ud; obtain ⟨ad445, e445, hx445_0⟩ := Kd.at_int HR1.out x9_2 p445 q445; cases e445; replace hx445_0 := bcel HB hx445_0; replace p445 := eq_true p445; replace q445 := eq_true q445; have p446 : 0 ≤ (x9_2 : Int) := ud; have q446 : x9_2 < (l1.length : Int) := ud; obtain ⟨ad446, e446, hx446_0⟩ := Kd.at_int HR1.out x9_2 p446 q446; obtain rfl : ad445 = ad446 := (by injection e446); replace hx446_0 := bcel HB hx446_0; replace p446 := eq_true p446; replace q446 := eq_true q446; have p447 : 0 ≤ (x9_2 : Int) := ud; have q447 : x9_2 < (l2.length : Int) := ud; obtain ⟨ad447, e447, hx447_0⟩ := Kd.at_int HR2.out x9_2 p447 q447; cases e447; replace hx447_0 := bcel HB hx447_0; replace p447 := eq_true p447; replace q447 := eq_true q447))
           repeat (go_quiet (first | (go_at_call 22; (with_reducible refine (curtilageref10_Check.calls k2 ((rd_T28 l0 x9_2).f0) _ _ ((rd_T28 l0 x9_2).f1) _ _ ((rd_T28 l0 x9_2).f2) _ _ ((rd_T28 l0 x9_2).f3) _ _ ((rd_T28 l0 x9_2).f4) _ _ ((rd_T28 l0 x9_2).f5) _ _ ((rd_T28 l0 x9_2).f6) t444 _ ?side1 ?side2 ?side3 ?side4 ?side5 ?side6 ?side7 ?side8 ?side9 ?side10 ?side11 ?side12 A12.out).mono ?_); (case side1 => exact us (Kd.C_below HR443_1.out HB.out)); (case side2 => exact HC443_1.out); (case side3 => exact us (Kd.C_below HR443_2.out HB.out)); (case side4 => exact HC443_2.out); (case side5 => exact us (Kd.C_below HR443_3.out HB.out)); (case side6 => exact HC443_3.out); (case side7 => exact us (Kd.C_below HR443_4.out HB.out)); (case side8 => exact HC443_4.out); (case side9 => exact us (Kd.C_below HR443_5.out HB.out)); (case side10 => exact HC443_5.out); (case side11 => exact us (Kd.C_below HR443_6.out HB.out)); (case side12 => exact HC443_6.out); rintro e w20 ⟨rfl, hb⟩; have n0_ := bs HB hb; revert n0_; clear HB; intro HB; (try clear hb); have p445 : 0 ≤ (x9_2 : Int) := ud; have q445 : x9_2 < (l1.length : Int) := ud; obtain ⟨ad445, e445, hx445_0⟩ := Kd.at_int HR1.out x9_2 p445 q445; cases e445; replace hx445_0 := bcel HB hx445_0; replace p445 := eq_true p445; replace q445 := eq_true q445; have p446 : 0 ≤ (x9_2 : Int) := ud; have q446 : x9_2 < (l1.length : Int) := ud; obtain ⟨ad446, e446, hx446_0⟩ := Kd.at_int HR1.out x9_2 p446 q446; obtain rfl : ad445 = ad446 := (by injection e446); replace hx446_0 := bcel HB hx446_0; replace p446 := eq_true p446; replace q446 := eq_true q446; have p447 : 0 ≤ (x9_2 : Int) := ud; have q447 : x9_2 < (l2.length : Int) := ud; obtain ⟨ad447, e447, hx447_0⟩ := Kd.at_int HR2.out x9_2 p447 q447; cases e447; replace hx447_0 := bcel HB hx447_0; replace p447 := eq_true p447; replace q447 := eq_true q447)); try go_wp2_with (first | (go_at_call 22; (with_reducible refine (curtilageref10_Check.calls k2 ((rd_T28 l0 x9_2).f0) _ _ ((rd_T28 l0 x9_2).f1) _ _ ((rd_T28 l0 x9_2).f2) _ _ ((rd_T28 l0 x9_2).f3) _ _ ((rd_T28 l0 x9_2).f4) _ _ ((rd_T28 l0 x9_2).f5) _ _ ((rd_T28 l0 x9_2).f6) t444 _ ?side1 ?side2 ?side3 ?side4 ?side5 ?side6 ?side7 ?side8 ?side9 ?side10 ?side11 ?side12 A12.out).mono ?_); (case side1 => exact us (Kd.C_below HR443_1.out HB.out)); (case side2 => exact HC443_1.out); (case side3 => exact us (Kd.C_below HR443_2.out HB.out)); (case side4 => exact HC443_2.out); (case side5 => exact us (Kd.C_below HR443_3.out HB.out)); (case side6 => exact HC443_3.out); (case side7 => exact us (Kd.C_below HR443_4.out HB.out)); (case side8 => exact HC443_4.out); (case side9 => exact us (Kd.C_below HR443_5.out HB.out)); (case side10 => exact HC443_5.out); (case side11 => exact us (Kd.C_below HR443_6.out HB.out)); (case side12 => exact HC443_6.out); rintro e w20 ⟨rfl, hb⟩; have n0_ := bs HB hb; revert n0_; clear HB; intro HB; (try clear hb); have p445 : 0 ≤ (x9_2 : Int) := ud; have q445 : x9_2 < (l1.length : Int) := ud; obtain ⟨ad445, e445, hx445_0⟩ := Kd.at_int HR1.out x9_2 p445 q445; cases e445; replace hx445_0 := bcel HB hx445_0; replace p445 := eq_true p445; replace q445 := eq_true q445; have p446 : 0 ≤ (x9_2 : Int) := ud; have q446 : x9_2 < (l1.length : Int) := ud; obtain ⟨ad446, e446, hx446_0⟩ := Kd.at_int HR1.out x9_2 p446 q446; obtain rfl : ad445 = ad446 := (by injection e446); replace hx446_0 := bcel HB hx446_0; replace p446 := eq_true p446; replace q446 := eq_true q446; have p447 : 0 ≤ (x9_2 : Int) := ud; have q447 : x9_2 < (l2.length : Int) := ud; obtain ⟨ad447, e447, hx447_0⟩ := Kd.at_int HR2.out x9_2 p447 q447; cases e447; replace hx447_0 := bcel HB hx447_0; replace p447 := eq_true p447; replace q447 := eq_true q447)))
           go_ret
           exact ur (uc HB.out)
          ·rw [if_neg c19] at H
           have c19b0 := decide_eq_false c19
           clear c19
           by_cases c21 : (rd l2 x9_2) > 63
           ·rw [if_pos c21] at H
            have c21b0 : decide (63 < (rd l2 x9_2)) = true := decide_eq_true c21
            clear c21
            obtain rfl := Option.some.inj H
            have p443 : 0 ≤ (x9_2 : Int) := ud
            have q443 : x9_2 < (l0.length : Int) := ud
            obtain ⟨ad443, A443_1, c443_1, A443_2, c443_2, A443_3, c443_3, A443_4, c443_4, A443_5, c443_5, A443_6, c443_6, e443, hx443_0, hx443_1, hx443_2, hx443_3, hx443_4, hx443_5, hx443_6, hl443_1, hi443_1, hl443_2, hi443_2, hl443_3, hi443_3, hl443_4, hi443_4, hl443_5, hi443_5, hl443_6, hi443_6⟩ := at_T28 HR0.out x9_2 p443 q443
            cases e443
            replace hx443_0 := bcel HB hx443_0
            replace hx443_1 := bcel HB hx443_1
            replace hx443_2 := bcel HB hx443_2
            replace hx443_3 := bcel HB hx443_3
            replace hx443_4 := bcel HB hx443_4
            replace hx443_5 := bcel HB hx443_5
            replace hx443_6 := bcel HB hx443_6
            have HR443_1 := am hi443_1
            have HC443_1 := am hl443_1
            clear hi443_1 hl443_1
            have HR443_2 := am hi443_2
            have HC443_2 := am hl443_2
            clear hi443_2 hl443_2
            have HR443_3 := am hi443_3
            have HC443_3 := am hl443_3
            clear hi443_3 hl443_3
            have HR443_4 := am hi443_4
            have HC443_4 := am hl443_4
            clear hi443_4 hl443_4
            have HR443_5 := am hi443_5
            have HC443_5 := am hl443_5
            clear hi443_5 hl443_5
            have HR443_6 := am hi443_6
            have HC443_6 := am hl443_6
            clear hi443_6 hl443_6
            replace p443 := eq_true p443
            replace q443 := eq_true q443
            go_wp2_with (first | (go_at_call 22; (with_reducible refine (curtilageref10_Check.calls k2 ((rd_T28 l0 x9_2).f0) _ _ ((rd_T28 l0 x9_2).f1) _ _ ((rd_T28 l0 x9_2).f2) _ _ ((rd_T28 l0 x9_2).f3) _ _ ((rd_T28 l0 x9_2).f4) _ _ ((rd_T28 l0 x9_2).f5) _ _ ((rd_T28 l0 x9_2).f6) t444 _ ?side1 ?side2 ?side3 ?side4 ?side5 ?side6 ?side7 ?side8 ?side9 ?side10 ?side11 ?side12 A12.out).mono ?_); (case side1 => exact us (Kd.C_below HR443_1.out HB.out)); (case side2 => exact HC443_1.out); (case side3 => exact us (Kd.C_below HR443_2.out HB.out)); (case side4 => exact HC443_2.out); (case side5 => exact us (Kd.C_below HR443_3.out HB.out)); (case side6 => exact HC443_3.out); (case side7 => exact us (Kd.C_below HR443_4.out HB.out)); (case side8 => exact HC443_4.out); (case side9 => exact us (Kd.C_below HR443_5.out HB.out)); (case side10 => exact HC443_5.out); (case side11 => exact us (Kd.C_below HR443_6.out HB.out)); (case side12 => exact HC443_6.out); rintro e w22 ⟨rfl, hb⟩; have n0_ := bs HB hb; revert n0_; clear HB; intro HB; (try clear hb); have p445 : 0 ≤ (x9_2 : Int) := ud; have q445 : x9_2 < (l1.length : Int) := ud; obtain ⟨ad445, e445, hx445_0⟩ := Kd.at_int HR1.out x9_2 p445 q445; cases e445; replace hx445_0 := bcel HB hx445_0; replace p445 := eq_true p445; replace q445 := eq_true q445; have p446 : 0 ≤ (x9_2 : Int) := ud; have q446 : x9_2 < (l1.length : Int) := ud; obtain ⟨ad446, e446, hx446_0⟩ := Kd.at_int HR1.out x9_2 p446 q446; obtain rfl : ad445 = ad446 := (by injection e446); replace hx446_0 := bcel HB hx446_0; replace p446 := eq_true p446; replace q446 := eq_true q446; have p447 : 0 ≤ (x9_2 : Int) := ud; have q447 : x9_2 < (l2.length : Int) := ud; obtain ⟨ad447, e447, hx447_0⟩ := Kd.at_int HR2.out x9_2 p447 q447; cases e447; replace hx447_0 := bcel HB hx447_0; replace p447 := eq_true p447; replace q447 := eq_true q447; have p448 : 0 ≤ (x9_2 : Int) := ud; have q448 : x9_2 < (l2.length : Int) := ud; obtain ⟨ad448, e448, hx448_0⟩ := Kd.at_int HR2.out x9_2 p448 q448; obtain rfl : ad447 = ad448 := (by injection e448); replace hx448_0 := bcel HB hx448_0; replace p448 := eq_true p448; replace q448 := eq_true q448))
            repeat (go_quiet (first | (go_at_call 22; (with_reducible refine (curtilageref10_Check.calls k2 ((rd_T28 l0 x9_2).f0) _ _ ((rd_T28 l0 x9_2).f1) _ _ ((rd_T28 l0 x9_2).f2) _ _ ((rd_T28 l0 x9_2).f3) _ _ ((rd_T28 l0 x9_2).f4) _ _ ((rd_T28 l0 x9_2).f5) _ _ ((rd_T28 l0 x9_2).f6) t444 _ ?side1 ?side2 ?side3 ?side4 ?side5 ?side6 ?side7 ?side8 ?side9 ?side10 ?side11 ?side12 A12.out).mono ?_); (case side1 => exact us (Kd.C_below HR443_1.out HB.out)); (case side2 => exact HC443_1.out); (case side3 => exact us (Kd.C_below HR443_2.out HB.out)); (case side4 => exact HC443_2.out); (case side5 => exact us (Kd.C_below HR443_3.out HB.out)); (case side6 => exact HC443_3.out); (case side7 => exact us (Kd.C_below HR443_4.out HB.out)); (case side8 => exact HC443_4.out); (case side9 => exact us (Kd.C_below HR443_5.out HB.out)); (case side10 => exact HC443_5.out); (case side11 => exact us (Kd.C_below HR443_6.out HB.out)); (case side12 => exact HC443_6.out); rintro e w22 ⟨rfl, hb⟩; have n0_ := bs HB hb; revert n0_; clear HB; intro HB; (try clear hb); have p445 : 0 ≤ (x9_2 : Int) := ud; have q445 : x9_2 < (l1.length : Int) := ud; obtain ⟨ad445, e445, hx445_0⟩ := Kd.at_int HR1.out x9_2 p445 q445; cases e445; replace hx445_0 := bcel HB hx445_0; replace p445 := eq_true p445; replace q445 := eq_true q445; have p446 : 0 ≤ (x9_2 : Int) := ud; have q446 : x9_2 < (l1.length : Int) := ud; obtain ⟨ad446, e446, hx446_0⟩ := Kd.at_int HR1.out x9_2 p446 q446; obtain rfl : ad445 = ad446 := (by injection e446); replace hx446_0 := bcel HB hx446_0; replace p446 := eq_true p446; replace q446 := eq_true q446; have p447 : 0 ≤ (x9_2 : Int) := ud; have q447 : x9_2 < (l2.length : Int) := ud; obtain ⟨ad447, e447, hx447_0⟩ := Kd.at_int HR2.out x9_2 p447 q447; cases e447; replace hx447_0 := bcel HB hx447_0; replace p447 := eq_true p447; replace q447 := eq_true q447; have p448 : 0 ≤ (x9_2 : Int) := ud; have q448 : x9_2 < (l2.length : Int) := ud; obtain ⟨ad448, e448, hx448_0⟩ := Kd.at_int HR2.out x9_2 p448 q448; obtain rfl : ad447 = ad448 := (by injection e448); replace hx448_0 := bcel HB hx448_0; replace p448 := eq_true p448; replace q448 := eq_true q448)); try go_wp2_with (first | (go_at_call 22; (with_reducible refine (curtilageref10_Check.calls k2 ((rd_T28 l0 x9_2).f0) _ _ ((rd_T28 l0 x9_2).f1) _ _ ((rd_T28 l0 x9_2).f2) _ _ ((rd_T28 l0 x9_2).f3) _ _ ((rd_T28 l0 x9_2).f4) _ _ ((rd_T28 l0 x9_2).f5) _ _ ((rd_T28 l0 x9_2).f6) t444 _ ?side1 ?side2 ?side3 ?side4 ?side5 ?side6 ?side7 ?side8 ?side9 ?side10 ?side11 ?side12 A12.out).mono ?_); (case side1 => exact us (Kd.C_below HR443_1.out HB.out)); (case side2 => exact HC443_1.out); (case side3 => exact us (Kd.C_below HR443_2.out HB.out)); (case side4 => exact HC443_2.out); (case side5 => exact us (Kd.C_below HR443_3.out HB.out)); (case side6 => exact HC443_3.out); (case side7 => exact us (Kd.C_below HR443_4.out HB.out)); (case side8 => exact HC443_4.out); (case side9 => exact us (Kd.C_below HR443_5.out HB.out)); (case side10 => exact HC443_5.out); (case side11 => exact us (Kd.C_below HR443_6.out HB.out)); (case side12 => exact HC443_6.out); rintro e w22 ⟨rfl, hb⟩; have n0_ := bs HB hb; revert n0_; clear HB; intro HB; (try clear hb); have p445 : 0 ≤ (x9_2 : Int) := ud; have q445 : x9_2 < (l1.length : Int) := ud; obtain ⟨ad445, e445, hx445_0⟩ := Kd.at_int HR1.out x9_2 p445 q445; cases e445; replace hx445_0 := bcel HB hx445_0; replace p445 := eq_true p445; replace q445 := eq_true q445; have p446 : 0 ≤ (x9_2 : Int) := ud; have q446 : x9_2 < (l1.length : Int) := ud; obtain ⟨ad446, e446, hx446_0⟩ := Kd.at_int HR1.out x9_2 p446 q446; obtain rfl : ad445 = ad446 := (by injection e446); replace hx446_0 := bcel HB hx446_0; replace p446 := eq_true p446; replace q446 := eq_true q446; have p447 : 0 ≤ (x9_2 : Int) := ud; have q447 : x9_2 < (l2.length : Int) := ud; obtain ⟨ad447, e447, hx447_0⟩ := Kd.at_int HR2.out x9_2 p447 q447; cases e447; replace hx447_0 := bcel HB hx447_0; replace p447 := eq_true p447; replace q447 := eq_true q447; have p448 : 0 ≤ (x9_2 : Int) := ud; have q448 : x9_2 < (l2.length : Int) := ud; obtain ⟨ad448, e448, hx448_0⟩ := Kd.at_int HR2.out x9_2 p448 q448; obtain rfl : ad447 = ad448 := (by injection e448); replace hx448_0 := bcel HB hx448_0; replace p448 := eq_true p448; replace q448 := eq_true q448)))
            go_ret
            exact ur (uc HB.out)
           ·rw [if_neg c21] at H
            have c21b0 : decide (63 < (rd l2 x9_2)) = false := decide_eq_false c21
            clear c21
            have H' := am H
            clear H
            have p443 : 0 ≤ (x9_2 : Int) := ud
            have q443 : x9_2 < (l0.length : Int) := ud
            obtain ⟨ad443, A443_1, c443_1, A443_2, c443_2, A443_3, c443_3, A443_4, c443_4, A443_5, c443_5, A443_6, c443_6, e443, hx443_0, hx443_1, hx443_2, hx443_3, hx443_4, hx443_5, hx443_6, hl443_1, hi443_1, hl443_2, hi443_2, hl443_3, hi443_3, hl443_4, hi443_4, hl443_5, hi443_5, hl443_6, hi443_6⟩ := at_T28 HR0.out x9_2 p443 q443
            cases e443
            replace hx443_0 := bcel HB hx443_0
            replace hx443_1 := bcel HB hx443_1
            replace hx443_2 := bcel HB hx443_2
            replace hx443_3 := bcel HB hx443_3
            replace hx443_4 := bcel HB hx443_4
            replace hx443_5 := bcel HB hx443_5
            replace hx443_6 := bcel HB hx443_6
            have HR443_1 := am hi443_1
            have HC443_1 := am hl443_1
            clear hi443_1 hl443_1
            have HR443_2 := am hi443_2
            have HC443_2 := am hl443_2
            clear hi443_2 hl443_2
            have HR443_3 := am hi443_3
            have HC443_3 := am hl443_3
            clear hi443_3 hl443_3
            have HR443_4 := am hi443_4
            have HC443_4 := am hl443_4
            clear hi443_4 hl443_4
            have HR443_5 := am hi443_5
            have HC443_5 := am hl443_5
            clear hi443_5 hl443_5
            have HR443_6 := am hi443_6
            have HC443_6 := am hl443_6
            clear hi443_6 hl443_6
            replace p443 := eq_true p443
            replace q443 := eq_true q443
            go_wp2_with (first | (go_at_call 22; (with_reducible refine (curtilageref10_Check.calls k2 ((rd_T28 l0 x9_2).f0) _ _ ((rd_T28 l0 x9_2).f1) _ _ ((rd_T28 l0 x9_2).f2) _ _ ((rd_T28 l0 x9_2).f3) _ _ ((rd_T28 l0 x9_2).f4) _ _ ((rd_T28 l0 x9_2).f5) _ _ ((rd_T28 l0 x9_2).f6) t444 _ ?side1 ?side2 ?side3 ?side4 ?side5 ?side6 ?side7 ?side8 ?side9 ?side10 ?side11 ?side12 A12.out).mono ?_); (case side1 => exact us (Kd.C_below HR443_1.out HB.out)); (case side2 => exact HC443_1.out); (case side3 => exact us (Kd.C_below HR443_2.out HB.out)); (case side4 => exact HC443_2.out); (case side5 => exact us (Kd.C_below HR443_3.out HB.out)); (case side6 => exact HC443_3.out); (case side7 => exact us (Kd.C_below HR443_4.out HB.out)); (case side8 => exact HC443_4.out); (case side9 => exact us (Kd.C_below HR443_5.out HB.out)); (case side10 => exact HC443_5.out); (case side11 => exact us (Kd.C_below HR443_6.out HB.out)); (case side12 => exact HC443_6.out); rintro e w23 ⟨rfl, hb⟩; have n0_ := bs HB hb; revert n0_; clear HB; intro HB; (try clear hb); have p445 : 0 ≤ (x9_2 : Int) := ud; have q445 : x9_2 < (l1.length : Int) := ud; obtain ⟨ad445, e445, hx445_0⟩ := Kd.at_int HR1.out x9_2 p445 q445; cases e445; replace hx445_0 := bcel HB hx445_0; replace p445 := eq_true p445; replace q445 := eq_true q445; have p446 : 0 ≤ (x9_2 : Int) := ud; have q446 : x9_2 < (l1.length : Int) := ud; obtain ⟨ad446, e446, hx446_0⟩ := Kd.at_int HR1.out x9_2 p446 q446; obtain rfl : ad445 = ad446 := (by injection e446); replace hx446_0 := bcel HB hx446_0; replace p446 := eq_true p446; replace q446 := eq_true q446; have p447 : 0 ≤ (x9_2 : Int) := ud; have q447 : x9_2 < (l2.length : Int) := ud; obtain ⟨ad447, e447, hx447_0⟩ := Kd.at_int HR2.out x9_2 p447 q447; cases e447; replace hx447_0 := bcel HB hx447_0; replace p447 := eq_true p447; replace q447 := eq_true q447; have p448 : 0 ≤ (x9_2 : Int) := ud; have q448 : x9_2 < (l2.length : Int) := ud; obtain ⟨ad448, e448, hx448_0⟩ := Kd.at_int HR2.out x9_2 p448 q448; obtain rfl : ad447 = ad448 := (by injection e448); replace hx448_0 := bcel HB hx448_0; replace p448 := eq_true p448; replace q448 := eq_true q448))
            repeat (go_quiet (first | (go_at_call 22; (with_reducible refine (curtilageref10_Check.calls k2 ((rd_T28 l0 x9_2).f0) _ _ ((rd_T28 l0 x9_2).f1) _ _ ((rd_T28 l0 x9_2).f2) _ _ ((rd_T28 l0 x9_2).f3) _ _ ((rd_T28 l0 x9_2).f4) _ _ ((rd_T28 l0 x9_2).f5) _ _ ((rd_T28 l0 x9_2).f6) t444 _ ?side1 ?side2 ?side3 ?side4 ?side5 ?side6 ?side7 ?side8 ?side9 ?side10 ?side11 ?side12 A12.out).mono ?_); (case side1 => exact us (Kd.C_below HR443_1.out HB.out)); (case side2 => exact HC443_1.out); (case side3 => exact us (Kd.C_below HR443_2.out HB.out)); (case side4 => exact HC443_2.out); (case side5 => exact us (Kd.C_below HR443_3.out HB.out)); (case side6 => exact HC443_3.out); (case side7 => exact us (Kd.C_below HR443_4.out HB.out)); (case side8 => exact HC443_4.out); (case side9 => exact us (Kd.C_below HR443_5.out HB.out)); (case side10 => exact HC443_5.out); (case side11 => exact us (Kd.C_below HR443_6.out HB.out)); (case side12 => exact HC443_6.out); rintro e w23 ⟨rfl, hb⟩; have n0_ := bs HB hb; revert n0_; clear HB; intro HB; (try clear hb); have p445 : 0 ≤ (x9_2 : Int) := ud; have q445 : x9_2 < (l1.length : Int) := ud; obtain ⟨ad445, e445, hx445_0⟩ := Kd.at_int HR1.out x9_2 p445 q445; cases e445; replace hx445_0 := bcel HB hx445_0; replace p445 := eq_true p445; replace q445 := eq_true q445; have p446 : 0 ≤ (x9_2 : Int) := ud; have q446 : x9_2 < (l1.length : Int) := ud; obtain ⟨ad446, e446, hx446_0⟩ := Kd.at_int HR1.out x9_2 p446 q446; obtain rfl : ad445 = ad446 := (by injection e446); replace hx446_0 := bcel HB hx446_0; replace p446 := eq_true p446; replace q446 := eq_true q446; have p447 : 0 ≤ (x9_2 : Int) := ud; have q447 : x9_2 < (l2.length : Int) := ud; obtain ⟨ad447, e447, hx447_0⟩ := Kd.at_int HR2.out x9_2 p447 q447; cases e447; replace hx447_0 := bcel HB hx447_0; replace p447 := eq_true p447; replace q447 := eq_true q447; have p448 : 0 ≤ (x9_2 : Int) := ud; have q448 : x9_2 < (l2.length : Int) := ud; obtain ⟨ad448, e448, hx448_0⟩ := Kd.at_int HR2.out x9_2 p448 q448; obtain rfl : ad447 = ad448 := (by injection e448); replace hx448_0 := bcel HB hx448_0; replace p448 := eq_true p448; replace q448 := eq_true q448)); try go_wp2_with (first | (go_at_call 22; (with_reducible refine (curtilageref10_Check.calls k2 ((rd_T28 l0 x9_2).f0) _ _ ((rd_T28 l0 x9_2).f1) _ _ ((rd_T28 l0 x9_2).f2) _ _ ((rd_T28 l0 x9_2).f3) _ _ ((rd_T28 l0 x9_2).f4) _ _ ((rd_T28 l0 x9_2).f5) _ _ ((rd_T28 l0 x9_2).f6) t444 _ ?side1 ?side2 ?side3 ?side4 ?side5 ?side6 ?side7 ?side8 ?side9 ?side10 ?side11 ?side12 A12.out).mono ?_); (case side1 => exact us (Kd.C_below HR443_1.out HB.out)); (case side2 => exact HC443_1.out); (case side3 => exact us (Kd.C_below HR443_2.out HB.out)); (case side4 => exact HC443_2.out); (case side5 => exact us (Kd.C_below HR443_3.out HB.out)); (case side6 => exact HC443_3.out); (case side7 => exact us (Kd.C_below HR443_4.out HB.out)); (case side8 => exact HC443_4.out); (case side9 => exact us (Kd.C_below HR443_5.out HB.out)); (case side10 => exact HC443_5.out); (case side11 => exact us (Kd.C_below HR443_6.out HB.out)); (case side12 => exact HC443_6.out); rintro e w23 ⟨rfl, hb⟩; have n0_ := bs HB hb; revert n0_; clear HB; intro HB; (try clear hb); have p445 : 0 ≤ (x9_2 : Int) := ud; have q445 : x9_2 < (l1.length : Int) := ud; obtain ⟨ad445, e445, hx445_0⟩ := Kd.at_int HR1.out x9_2 p445 q445; cases e445; replace hx445_0 := bcel HB hx445_0; replace p445 := eq_true p445; replace q445 := eq_true q445; have p446 : 0 ≤ (x9_2 : Int) := ud; have q446 : x9_2 < (l1.length : Int) := ud; obtain ⟨ad446, e446, hx446_0⟩ := Kd.at_int HR1.out x9_2 p446 q446; obtain rfl : ad445 = ad446 := (by injection e446); replace hx446_0 := bcel HB hx446_0; replace p446 := eq_true p446; replace q446 := eq_true q446; have p447 : 0 ≤ (x9_2 : Int) := ud; have q447 : x9_2 < (l2.length : Int) := ud; obtain ⟨ad447, e447, hx447_0⟩ := Kd.at_int HR2.out x9_2 p447 q447; cases e447; replace hx447_0 := bcel HB hx447_0; replace p447 := eq_true p447; replace q447 := eq_true q447; have p448 : 0 ≤ (x9_2 : Int) := ud; have q448 : x9_2 < (l2.length : Int) := ud; obtain ⟨ad448, e448, hx448_0⟩ := Kd.at_int HR2.out x9_2 p448 q448; obtain rfl : ad447 = ad448 := (by injection e448); replace hx448_0 := bcel HB hx448_0; replace p448 := eq_true p448; replace q448 := eq_true q448)))
            go_roundg k2
            case measure => have := HJ4.out; have := HK2.out; omega
            case rel => exact ⟨(wrap64 (x9_2 + 1)), uf, H', ⟨by have := HJ4.out; have := HK2.out; omega⟩, ⟨uc HB.out⟩⟩
        ·rw [if_neg c15] at H
         have c15b0 := beq_eq_false_iff_ne.mpr c15
         have c15b1 := bne_iff_ne.mpr c15
         obtain rfl := Option.some.inj H
         have p443 : 0 ≤ (x9_2 : Int) := ud
         have q443 : x9_2 < (l0.length : Int) := ud
         obtain ⟨ad443, A443_1, c443_1, A443_2, c443_2, A443_3, c443_3, A443_4, c443_4, A443_5, c443_5, A443_6, c443_6, e443, hx443_0, hx443_1, hx443_2, hx443_3, hx443_4, hx443_5, hx443_6, hl443_1, hi443_1, hl443_2, hi443_2, hl443_3, hi443_3, hl443_4, hi443_4, hl443_5, hi443_5, hl443_6, hi443_6⟩ := at_T28 HR0.out x9_2 p443 q443
         cases e443
         replace hx443_0 := bcel HB hx443_0
         replace hx443_1 := bcel HB hx443_1
         replace hx443_2 := bcel HB hx443_2
         replace hx443_3 := bcel HB hx443_3
         replace hx443_4 := bcel HB hx443_4
         replace hx443_5 := bcel HB hx443_5
         replace hx443_6 := bcel HB hx443_6
         have HR443_1 := am hi443_1
         have HC443_1 := am hl443_1
         clear hi443_1 hl443_1
         have HR443_2 := am hi443_2
         have HC443_2 := am hl443_2
         clear hi443_2 hl443_2
         have HR443_3 := am hi443_3
         have HC443_3 := am hl443_3
         clear hi443_3 hl443_3
         have HR443_4 := am hi443_4
         have HC443_4 := am hl443_4
         clear hi443_4 hl443_4
         have HR443_5 := am hi443_5
         have HC443_5 := am hl443_5
         clear hi443_5 hl443_5
         have HR443_6 := am hi443_6
         have HC443_6 := am hl443_6
         clear hi443_6 hl443_6
         replace p443 := eq_true p443
         replace q443 := eq_true q443
         go_wp2_with (first | (go_at_call 22; (with_reducible refine (curtilageref10_Check.calls k2 ((rd_T28 l0 x9_2).f0) _ _ ((rd_T28 l0 x9_2).f1) _ _ ((rd_T28 l0 x9_2).f2) _ _ ((rd_T28 l0 x9_2).f3) _ _ ((rd_T28 l0 x9_2).f4) _ _ ((rd_T28 l0 x9_2).f5) _ _ ((rd_T28 l0 x9_2).f6) t444 _ ?side1 ?side2 ?side3 ?side4 ?side5 ?side6 ?side7 ?side8 ?side9 ?side10 ?side11 ?side12 A12.out).mono ?_); (case side1 => exact us (Kd.C_below HR443_1.out HB.out)); (case side2 => exact HC443_1.out); (case side3 => exact us (Kd.C_below HR443_2.out HB.out)); (case side4 => exact HC443_2.out); (case side5 => exact us (Kd.C_below HR443_3.out HB.out)); (case side6 => exact HC443_3.out); (case side7 => exact us (Kd.C_below HR443_4.out HB.out)); (case side8 => exact HC443_4.out); (case side9 => exact us (Kd.C_below HR443_5.out HB.out)); (case side10 => exact HC443_5.out); (case side11 => exact us (Kd.C_below HR443_6.out HB.out)); (case side12 => exact HC443_6.out); rintro e w24 ⟨rfl, hb⟩; have n0_ := bs HB hb; revert n0_; clear HB; intro HB; (try clear hb); have p445 : 0 ≤ (x9_2 : Int) := ud; have q445 : x9_2 < (l1.length : Int) := ud; obtain ⟨ad445, e445, hx445_0⟩ := Kd.at_int HR1.out x9_2 p445 q445; cases e445; replace hx445_0 := bcel HB hx445_0; replace p445 := eq_true p445; replace q445 := eq_true q445))
         repeat (go_quiet (first | (go_at_call 22; (with_reducible refine (curtilageref10_Check.calls k2 ((rd_T28 l0 x9_2).f0) _ _ ((rd_T28 l0 x9_2).f1) _ _ ((rd_T28 l0 x9_2).f2) _ _ ((rd_T28 l0 x9_2).f3) _ _ ((rd_T28 l0 x9_2).f4) _ _ ((rd_T28 l0 x9_2).f5) _ _ ((rd_T28 l0 x9_2).f6) t444 _ ?side1 ?side2 ?side3 ?side4 ?side5 ?side6 ?side7 ?side8 ?side9 ?side10 ?side11 ?side12 A12.out).mono ?_); (case side1 => exact us (Kd.C_below HR443_1.out HB.out)); (case side2 => exact HC443_1.out); (case side3 => exact us (Kd.C_below HR443_2.out HB.out)); (case side4 => exact HC443_2.out); (case side5 => exact us (Kd.C_below HR443_3.out HB.out)); (case side6 => exact HC443_3.out); (case side7 => exact us (Kd.C_below HR443_4.out HB.out)); (case side8 => exact HC443_4.out); (case side9 => exact us (Kd.C_below HR443_5.out HB.out)); (case side10 => exact HC443_5.out); (case side11 => exact us (Kd.C_below HR443_6.out HB.out)); (case side12 => exact HC443_6.out); rintro e w24 ⟨rfl, hb⟩; have n0_ := bs HB hb; revert n0_; clear HB; intro HB; (try clear hb); have p445 : 0 ≤ (x9_2 : Int) := ud; have q445 : x9_2 < (l1.length : Int) := ud; obtain ⟨ad445, e445, hx445_0⟩ := Kd.at_int HR1.out x9_2 p445 q445; cases e445; replace hx445_0 := bcel HB hx445_0; replace p445 := eq_true p445; replace q445 := eq_true q445)); try go_wp2_with (first | (go_at_call 22; (with_reducible refine (curtilageref10_Check.calls k2 ((rd_T28 l0 x9_2).f0) _ _ ((rd_T28 l0 x9_2).f1) _ _ ((rd_T28 l0 x9_2).f2) _ _ ((rd_T28 l0 x9_2).f3) _ _ ((rd_T28 l0 x9_2).f4) _ _ ((rd_T28 l0 x9_2).f5) _ _ ((rd_T28 l0 x9_2).f6) t444 _ ?side1 ?side2 ?side3 ?side4 ?side5 ?side6 ?side7 ?side8 ?side9 ?side10 ?side11 ?side12 A12.out).mono ?_); (case side1 => exact us (Kd.C_below HR443_1.out HB.out)); (case side2 => exact HC443_1.out); (case side3 => exact us (Kd.C_below HR443_2.out HB.out)); (case side4 => exact HC443_2.out); (case side5 => exact us (Kd.C_below HR443_3.out HB.out)); (case side6 => exact HC443_3.out); (case side7 => exact us (Kd.C_below HR443_4.out HB.out)); (case side8 => exact HC443_4.out); (case side9 => exact us (Kd.C_below HR443_5.out HB.out)); (case side10 => exact HC443_5.out); (case side11 => exact us (Kd.C_below HR443_6.out HB.out)); (case side12 => exact HC443_6.out); rintro e w24 ⟨rfl, hb⟩; have n0_ := bs HB hb; revert n0_; clear HB; intro HB; (try clear hb); have p445 : 0 ≤ (x9_2 : Int) := ud; have q445 : x9_2 < (l1.length : Int) := ud; obtain ⟨ad445, e445, hx445_0⟩ := Kd.at_int HR1.out x9_2 p445 q445; cases e445; replace hx445_0 := bcel HB hx445_0; replace p445 := eq_true p445; replace q445 := eq_true q445)))
         go_ret
         exact ur (uc HB.out)
       ·rw [if_neg c13] at H
        have c13b0 := beq_eq_false_iff_ne.mpr c13
        have c13b1 := bne_iff_ne.mpr c13
        obtain rfl := Option.some.inj H
        have p443 : 0 ≤ (x9_2 : Int) := ud
        have q443 : x9_2 < (l0.length : Int) := ud
        obtain ⟨ad443, A443_1, c443_1, A443_2, c443_2, A443_3, c443_3, A443_4, c443_4, A443_5, c443_5, A443_6, c443_6, e443, hx443_0, hx443_1, hx443_2, hx443_3, hx443_4, hx443_5, hx443_6, hl443_1, hi443_1, hl443_2, hi443_2, hl443_3, hi443_3, hl443_4, hi443_4, hl443_5, hi443_5, hl443_6, hi443_6⟩ := at_T28 HR0.out x9_2 p443 q443
        cases e443
        replace hx443_0 := bcel HB hx443_0
        replace hx443_1 := bcel HB hx443_1
        replace hx443_2 := bcel HB hx443_2
        replace hx443_3 := bcel HB hx443_3
        replace hx443_4 := bcel HB hx443_4
        replace hx443_5 := bcel HB hx443_5
        replace hx443_6 := bcel HB hx443_6
        have HR443_1 := am hi443_1
        have HC443_1 := am hl443_1
        clear hi443_1 hl443_1
        have HR443_2 := am hi443_2
        have HC443_2 := am hl443_2
        clear hi443_2 hl443_2
        have HR443_3 := am hi443_3
        have HC443_3 := am hl443_3
        clear hi443_3 hl443_3
        have HR443_4 := am hi443_4
        have HC443_4 := am hl443_4
        clear hi443_4 hl443_4
        have HR443_5 := am hi443_5
        have HC443_5 := am hl443_5
        clear hi443_5 hl443_5
        have HR443_6 := am hi443_6
        have HC443_6 := am hl443_6
        clear hi443_6 hl443_6
        replace p443 := eq_true p443
        replace q443 := eq_true q443
        go_wp2_with (first | (go_at_call 22; (with_reducible refine (curtilageref10_Check.calls k2 ((rd_T28 l0 x9_2).f0) _ _ ((rd_T28 l0 x9_2).f1) _ _ ((rd_T28 l0 x9_2).f2) _ _ ((rd_T28 l0 x9_2).f3) _ _ ((rd_T28 l0 x9_2).f4) _ _ ((rd_T28 l0 x9_2).f5) _ _ ((rd_T28 l0 x9_2).f6) t444 _ ?side1 ?side2 ?side3 ?side4 ?side5 ?side6 ?side7 ?side8 ?side9 ?side10 ?side11 ?side12 A12.out).mono ?_); (case side1 => exact us (Kd.C_below HR443_1.out HB.out)); (case side2 => exact HC443_1.out); (case side3 => exact us (Kd.C_below HR443_2.out HB.out)); (case side4 => exact HC443_2.out); (case side5 => exact us (Kd.C_below HR443_3.out HB.out)); (case side6 => exact HC443_3.out); (case side7 => exact us (Kd.C_below HR443_4.out HB.out)); (case side8 => exact HC443_4.out); (case side9 => exact us (Kd.C_below HR443_5.out HB.out)); (case side10 => exact HC443_5.out); (case side11 => exact us (Kd.C_below HR443_6.out HB.out)); (case side12 => exact HC443_6.out); rintro e w25 ⟨rfl, hb⟩; have n0_ := bs HB hb; revert n0_; clear HB; intro HB; (try clear hb)))
        repeat (go_quiet (first | (go_at_call 22; (with_reducible refine (curtilageref10_Check.calls k2 ((rd_T28 l0 x9_2).f0) _ _ ((rd_T28 l0 x9_2).f1) _ _ ((rd_T28 l0 x9_2).f2) _ _ ((rd_T28 l0 x9_2).f3) _ _ ((rd_T28 l0 x9_2).f4) _ _ ((rd_T28 l0 x9_2).f5) _ _ ((rd_T28 l0 x9_2).f6) t444 _ ?side1 ?side2 ?side3 ?side4 ?side5 ?side6 ?side7 ?side8 ?side9 ?side10 ?side11 ?side12 A12.out).mono ?_); (case side1 => exact us (Kd.C_below HR443_1.out HB.out)); (case side2 => exact HC443_1.out); (case side3 => exact us (Kd.C_below HR443_2.out HB.out)); (case side4 => exact HC443_2.out); (case side5 => exact us (Kd.C_below HR443_3.out HB.out)); (case side6 => exact HC443_3.out); (case side7 => exact us (Kd.C_below HR443_4.out HB.out)); (case side8 => exact HC443_4.out); (case side9 => exact us (Kd.C_below HR443_5.out HB.out)); (case side10 => exact HC443_5.out); (case side11 => exact us (Kd.C_below HR443_6.out HB.out)); (case side12 => exact HC443_6.out); rintro e w25 ⟨rfl, hb⟩; have n0_ := bs HB hb; revert n0_; clear HB; intro HB; (try clear hb))); try go_wp2_with (first | (go_at_call 22; (with_reducible refine (curtilageref10_Check.calls k2 ((rd_T28 l0 x9_2).f0) _ _ ((rd_T28 l0 x9_2).f1) _ _ ((rd_T28 l0 x9_2).f2) _ _ ((rd_T28 l0 x9_2).f3) _ _ ((rd_T28 l0 x9_2).f4) _ _ ((rd_T28 l0 x9_2).f5) _ _ ((rd_T28 l0 x9_2).f6) t444 _ ?side1 ?side2 ?side3 ?side4 ?side5 ?side6 ?side7 ?side8 ?side9 ?side10 ?side11 ?side12 A12.out).mono ?_); (case side1 => exact us (Kd.C_below HR443_1.out HB.out)); (case side2 => exact HC443_1.out); (case side3 => exact us (Kd.C_below HR443_2.out HB.out)); (case side4 => exact HC443_2.out); (case side5 => exact us (Kd.C_below HR443_3.out HB.out)); (case side6 => exact HC443_3.out); (case side7 => exact us (Kd.C_below HR443_4.out HB.out)); (case side8 => exact HC443_4.out); (case side9 => exact us (Kd.C_below HR443_5.out HB.out)); (case side10 => exact HC443_5.out); (case side11 => exact us (Kd.C_below HR443_6.out HB.out)); (case side12 => exact HC443_6.out); rintro e w25 ⟨rfl, hb⟩; have n0_ := bs HB hb; revert n0_; clear HB; intro HB; (try clear hb))))
        go_ret
        exact ur (uc HB.out)
      ·rw [if_neg c10] at H
       have c10b0 := decide_eq_false c10
       clear c10
       have H' := am H
       clear H
       go_wp2
       repeat (go_quiet (fail); try go_wp2)
       go_loopg [11] k2 (fun kq v11 w' => ∃ (x11_3 : Int), v11 = .int .i64 x11_3 ∧ Aside0 (curtilageref18_Right.l1 kq l0 l3 x11_3 = some r) ∧ Aside0 (kq ≤ k2) ∧ Aside0 (Below w.heap.size w w'))
       case atStart => exact ⟨(0), uf, H', ⟨Nat.le_refl _⟩, ⟨uc HB.out⟩⟩
       case round =>
        clear H'
        clear c10b0
        obtain ⟨x11_3, rfl, HA, HK3, HB⟩ := hrel
        cases gk with
        | zero => exact absurd HA.out (by simp [curtilageref18_Right.l1])
        | succ k3 =>
         have H := HA.out
         clear HA
         simp only [curtilageref18_Right.l1] at H
         by_cases c26 : x11_3 < (l3.length : Int)
         ·rw [if_pos c26] at H
          have c26b0 := decide_eq_true c26
          clear c26
          obtain ⟨c27, H⟩ := ic H
          have c27b0 : decide (0 ≤ x11_3) = true := decide_eq_true c27
          clear c27
          have HC28 := am H
          clear H
          have p449 : 0 ≤ (x11_3 : Int) := ud
          have q449 : x11_3 < (l3.length : Int) := ud
          obtain ⟨ad449, e449, hx449_0, hx449_1, hx449_2, hx449_3⟩ := at_T44 HR3.out x11_3 p449 q449
          cases e449
          replace hx449_0 := bcel HB hx449_0
          replace hx449_1 := bcel HB hx449_1
          replace hx449_2 := bcel HB hx449_2
          replace hx449_3 := bcel HB hx449_3
          replace p449 := eq_true p449
          replace q449 := eq_true q449
          go_upto_region 13 with (first | ((with_reducible refine gate_dst (N := 12) rfl ?_); (try (refine gate_guard (by rfl) ?_; dsimp only)); refine box_event ?hg (N := 12) ?hd (cs := #[.int .i64 0, .int .i64 0, .int .i64 0, .int .i64 0]) (t := 44) ?hr ?_; (case hd => rfl); (case hg => rfl); (case hr => first | (go_simp; done) | (go_simp; rfl)); intro gb450 hg w29 hbox hb; have n0_ := bs HB hb; have n1_ := am (hbox); have n2_ := nz HB hg; have n3_ := nz HB hg; revert n0_ n1_ n2_ n3_; clear HB; intro HB BK450 GW450 GE450; clear hb hbox hg; obtain ⟨hcz30_0, hcz30_1, hcz30_2, hcz30_3, hfz30_0, hfz30_1, hfz30_2, hfz30_3⟩ := cells4 BK450.out) | ((with_reducible refine gate_store (t := 44) (p := 12) rfl ?_); (try (rw [drewN_self w29]; generalize hq_ : World.drewN w29 _ = w29; have n0_ := am (blk_at hq_ BK450.out); have n1_ := am (below_at hq_ HB.out); clear hq_ BK450 HB; revert n0_ n1_; intro BK450 HB)); refine store_event (t := 44) (p := 12) (v := ?vo_w31) (w1 := ((((w29.setCell ⟨gb450, 0, none⟩ (.int .i64 ((rd_T44 l3 x11_3).f0))).setCell ⟨gb450, 1, none⟩ (.int .i64 ((rd_T44 l3 x11_3).f1))).setCell ⟨gb450, 2, none⟩ (.int .i64 ((rd_T44 l3 x11_3).f2))).setCell ⟨gb450, 3, none⟩ (.int .i64 ((rd_T44 l3 x11_3).f3)))) ?hg ?ho ?hn ?hr ?_; (case ho => rfl); (case hg => rfl); (case hn => rfl); (case hr => first | (go_simp; done) | (go_simp; rfl)); intro w31 hw; have n0_ := bp4 #[.int .i64 ((rd_T44 l3 x11_3).f0), .int .i64 ((rd_T44 l3 x11_3).f1), .int .i64 ((rd_T44 l3 x11_3).f2), .int .i64 ((rd_T44 l3 x11_3).f3)] hw BK450; have n1_ : Aside0 (Below w.heap.size w w31) := ⟨(by rw [hw]; exact (uc HB.out))⟩; revert n0_ n1_; clear hw BK450 HB; intro BK450 HB))
          repeat (go_quiet (first | ((with_reducible refine gate_dst (N := 12) rfl ?_); (try (refine gate_guard (by rfl) ?_; dsimp only)); refine box_event ?hg (N := 12) ?hd (cs := #[.int .i64 0, .int .i64 0, .int .i64 0, .int .i64 0]) (t := 44) ?hr ?_; (case hd => rfl); (case hg => rfl); (case hr => first | (go_simp; done) | (go_simp; rfl)); intro gb450 hg w29 hbox hb; have n0_ := bs HB hb; have n1_ := am (hbox); have n2_ := nz HB hg; have n3_ := nz HB hg; revert n0_ n1_ n2_ n3_; clear HB; intro HB BK450 GW450 GE450; clear hb hbox hg; obtain ⟨hcz30_0, hcz30_1, hcz30_2, hcz30_3, hfz30_0, hfz30_1, hfz30_2, hfz30_3⟩ := cells4 BK450.out) | ((with_reducible refine gate_store (t := 44) (p := 12) rfl ?_); (try (rw [drewN_self w29]; generalize hq_ : World.drewN w29 _ = w29; have n0_ := am (blk_at hq_ BK450.out); have n1_ := am (below_at hq_ HB.out); clear hq_ BK450 HB; revert n0_ n1_; intro BK450 HB)); refine store_event (t := 44) (p := 12) (v := ?vo_w31) (w1 := ((((w29.setCell ⟨gb450, 0, none⟩ (.int .i64 ((rd_T44 l3 x11_3).f0))).setCell ⟨gb450, 1, none⟩ (.int .i64 ((rd_T44 l3 x11_3).f1))).setCell ⟨gb450, 2, none⟩ (.int .i64 ((rd_T44 l3 x11_3).f2))).setCell ⟨gb450, 3, none⟩ (.int .i64 ((rd_T44 l3 x11_3).f3)))) ?hg ?ho ?hn ?hr ?_; (case ho => rfl); (case hg => rfl); (case hn => rfl); (case hr => first | (go_simp; done) | (go_simp; rfl)); intro w31 hw; have n0_ := bp4 #[.int .i64 ((rd_T44 l3 x11_3).f0), .int .i64 ((rd_T44 l3 x11_3).f1), .int .i64 ((rd_T44 l3 x11_3).f2), .int .i64 ((rd_T44 l3 x11_3).f3)] hw BK450; have n1_ : Aside0 (Below w.heap.size w w31) := ⟨(by rw [hw]; exact (uc HB.out))⟩; revert n0_ n1_; clear hw BK450 HB; intro BK450 HB)); go_upto_region 13 with (first | ((with_reducible refine gate_dst (N := 12) rfl ?_); (try (refine gate_guard (by rfl) ?_; dsimp only)); refine box_event ?hg (N := 12) ?hd (cs := #[.int .i64 0, .int .i64 0, .int .i64 0, .int .i64 0]) (t := 44) ?hr ?_; (case hd => rfl); (case hg => rfl); (case hr => first | (go_simp; done) | (go_simp; rfl)); intro gb450 hg w29 hbox hb; have n0_ := bs HB hb; have n1_ := am (hbox); have n2_ := nz HB hg; have n3_ := nz HB hg; revert n0_ n1_ n2_ n3_; clear HB; intro HB BK450 GW450 GE450; clear hb hbox hg; obtain ⟨hcz30_0, hcz30_1, hcz30_2, hcz30_3, hfz30_0, hfz30_1, hfz30_2, hfz30_3⟩ := cells4 BK450.out) | ((with_reducible refine gate_store (t := 44) (p := 12) rfl ?_); (try (rw [drewN_self w29]; generalize hq_ : World.drewN w29 _ = w29; have n0_ := am (blk_at hq_ BK450.out); have n1_ := am (below_at hq_ HB.out); clear hq_ BK450 HB; revert n0_ n1_; intro BK450 HB)); refine store_event (t := 44) (p := 12) (v := ?vo_w31) (w1 := ((((w29.setCell ⟨gb450, 0, none⟩ (.int .i64 ((rd_T44 l3 x11_3).f0))).setCell ⟨gb450, 1, none⟩ (.int .i64 ((rd_T44 l3 x11_3).f1))).setCell ⟨gb450, 2, none⟩ (.int .i64 ((rd_T44 l3 x11_3).f2))).setCell ⟨gb450, 3, none⟩ (.int .i64 ((rd_T44 l3 x11_3).f3)))) ?hg ?ho ?hn ?hr ?_; (case ho => rfl); (case hg => rfl); (case hn => rfl); (case hr => first | (go_simp; done) | (go_simp; rfl)); intro w31 hw; have n0_ := bp4 #[.int .i64 ((rd_T44 l3 x11_3).f0), .int .i64 ((rd_T44 l3 x11_3).f1), .int .i64 ((rd_T44 l3 x11_3).f2), .int .i64 ((rd_T44 l3 x11_3).f3)] hw BK450; have n1_ : Aside0 (Below w.heap.size w w31) := ⟨(by rw [hw]; exact (uc HB.out))⟩; revert n0_ n1_; clear hw BK450 HB; intro BK450 HB)))
          (try simp only [Act.put, List.setIfInBounds_toArray, List.set_cons_zero, List.set_cons_succ])
          go_cut [113] (fun v113 wc => ∃ (kq : Nat) (x113_27 : Bool), v113 = .bool x113_27 ∧ Aside0 (curtilageref18_Right.j3 kq l0 l3 x11_3 x113_27 ((rd_T44 l3 x11_3).f0) ((rd_T44 l3 x11_3).f1) ((rd_T44 l3 x11_3).f2) ((rd_T44 l3 x11_3).f3) = some r) ∧ Aside0 (kq ≤ k3) ∧ Aside0 (wc.heap[gb450]? = some (.cells #[.int .i64 ((rd_T44 l3 x11_3).f0), .int .i64 ((rd_T44 l3 x11_3).f1), .int .i64 ((rd_T44 l3 x11_3).f2), .int .i64 ((rd_T44 l3 x11_3).f3)] 44 (0, 0))) ∧ Aside0 (Below w.heap.size w wc))
          case first =>
           have H := HC28.out
           clear HC28
           by_cases c32 : ((rd_T44 l3 x11_3).f0) < 0
           ·rw [if_pos c32] at H
            have c32b0 := decide_eq_true c32
            clear c32
            (first | rw [c32b0] | (simp only [i64_w, i32_w]; rw [c32b0]) | skip)
            have H' := am H
            clear H
            obtain ⟨hcz33_0, hcz33_1, hcz33_2, hcz33_3, hfz33_0, hfz33_1, hfz33_2, hfz33_3⟩ := cl4 BK450
            go_wp2
            repeat (go_quiet (fail); try go_wp2)
            go_meet
            case rel => exact ⟨_, (true), uf, H', ⟨by have := HJ4.out; have := HK2.out; have := HK3.out; first | omega | exact Nat.le_refl _⟩, ⟨ub BK450.out⟩, ⟨uc HB.out⟩⟩
           ·rw [if_neg c32] at H
            have c32b0 := decide_eq_false c32
            clear c32
            (first | rw [c32b0] | (simp only [i64_w, i32_w]; rw [c32b0]) | skip)
            by_cases c34 : ((rd_T44 l3 x11_3).f0) ≥ (l0.length : Int)
            ·rw [if_pos c34] at H
             have c34b0 : decide ((l0.length : Int) ≤ ((rd_T44 l3 x11_3).f0)) = true := decide_eq_true c34
             clear c34
             have H' := am H
             clear H
             obtain ⟨hcz35_0, hcz35_1, hcz35_2, hcz35_3, hfz35_0, hfz35_1, hfz35_2, hfz35_3⟩ := cl4 BK450
             go_wp2
             repeat (go_quiet (fail); try go_wp2)
             go_meet
             case rel => exact ⟨_, (true), uf, H', ⟨by have := HJ4.out; have := HK2.out; have := HK3.out; first | omega | exact Nat.le_refl _⟩, ⟨ub BK450.out⟩, ⟨uc HB.out⟩⟩
            ·rw [if_neg c34] at H
             have c34b0 : decide ((l0.length : Int) ≤ ((rd_T44 l3 x11_3).f0)) = false := decide_eq_false c34
             clear c34
             by_cases c36 : ((rd_T44 l3 x11_3).f1) < 0
             ·rw [if_pos c36] at H
              have c36b0 := decide_eq_true c36
              clear c36
              have H' := am H
              clear H
              obtain ⟨hcz37_0, hcz37_1, hcz37_2, hcz37_3, hfz37_0, hfz37_1, hfz37_2, hfz37_3⟩ := cl4 BK450
              go_wp2
              repeat (go_quiet (fail); try go_wp2)
              go_meet
              case rel => exact ⟨_, (true), uf, H', ⟨by have := HJ4.out; have := HK2.out; have := HK3.out; first | omega | exact Nat.le_refl _⟩, ⟨ub BK450.out⟩, ⟨uc HB.out⟩⟩
             ·rw [if_neg c36] at H
              have c36b0 := decide_eq_false c36
              clear c36
              obtain ⟨c38, H⟩ := ic H
              have c38b0 : decide (0 ≤ ((rd_T44 l3 x11_3).f0)) = true := decide_eq_true c38
              clear c38
              obtain ⟨c39, H⟩ := ic H
              have c39b0 : decide (((rd_T44 l3 x11_3).f0) < (l0.length : Int)) = true := decide_eq_true c39
              clear c39
              have H' := am H
              clear H
              obtain ⟨hcz40_0, hcz40_1, hcz40_2, hcz40_3, hfz40_0, hfz40_1, hfz40_2, hfz40_3⟩ := cl4 BK450
              have p451 : 0 ≤ (((rd_T44 l3 x11_3).f0) : Int) := ud
              have q451 : ((rd_T44 l3 x11_3).f0) < (l0.length : Int) := ud
              obtain ⟨ad451, A451_1, c451_1, A451_2, c451_2, A451_3, c451_3, A451_4, c451_4, A451_5, c451_5, A451_6, c451_6, e451, hx451_0, hx451_1, hx451_2, hx451_3, hx451_4, hx451_5, hx451_6, hl451_1, hi451_1, hl451_2, hi451_2, hl451_3, hi451_3, hl451_4, hi451_4, hl451_5, hi451_5, hl451_6, hi451_6⟩ := at_T28 HR0.out ((rd_T44 l3 x11_3).f0) p451 q451
              cases e451
              replace hx451_0 := bcel HB hx451_0
              replace hx451_1 := bcel HB hx451_1
              replace hx451_2 := bcel HB hx451_2
              replace hx451_3 := bcel HB hx451_3
              replace hx451_4 := bcel HB hx451_4
              replace hx451_5 := bcel HB hx451_5
              replace hx451_6 := bcel HB hx451_6
              have HR451_1 := am hi451_1
              have HC451_1 := am hl451_1
              clear hi451_1 hl451_1
              have HR451_2 := am hi451_2
              have HC451_2 := am hl451_2
              clear hi451_2 hl451_2
              have HR451_3 := am hi451_3
              have HC451_3 := am hl451_3
              clear hi451_3 hl451_3
              have HR451_4 := am hi451_4
              have HC451_4 := am hl451_4
              clear hi451_4 hl451_4
              have HR451_5 := am hi451_5
              have HC451_5 := am hl451_5
              clear hi451_5 hl451_5
              have HR451_6 := am hi451_6
              have HC451_6 := am hl451_6
              clear hi451_6 hl451_6
              replace p451 := eq_true p451
              replace q451 := eq_true q451
              go_wp2
              repeat (go_quiet (fail); try go_wp2)
              go_meet
              case rel => exact ⟨_, (decide (((rd_T44 l3 x11_3).f1) ≥ (((rd_T28 l0 ((rd_T44 l3 x11_3).f0)).f4).length : Int))), uf, H', ⟨by have := HJ4.out; have := HK2.out; have := HK3.out; first | omega | exact Nat.le_refl _⟩, ⟨ub BK450.out⟩, ⟨uc HB.out⟩⟩
          case rest =>
           clear HC28
           clear c26b0 c27b0 hcz30_0 hcz30_1 hcz30_2 hcz30_3 hfz30_0 hfz30_1 hfz30_2 hfz30_3 hx449_0 hx449_1 hx449_2 hx449_3 p449 q449
           obtain ⟨kq, x113_27, rfl, HA, HJ27, BK450, HB⟩ := hcut
           cases kq with
           | zero => exact absurd HA.out (by simp [curtilageref18_Right.j3])
           | succ kj27 =>
            have H := HA.out
            clear HA
            simp only [curtilageref18_Right.j3] at H
            by_cases c41 : x113_27 = true
            ·subst c41
             have H1 : (some false) = some r := by rw [if_pos rfl] at H; exact H
             clear H
             have H := H1
             clear H1
             obtain rfl := Option.some.inj H
             go_wp2
             repeat (go_quiet (fail); try go_wp2)
             go_ret
             exact ur (uc HB.out)
            ·replace c41 := Bool.eq_false_iff.mpr c41
             subst c41
             have H1 : (if ((rd_T44 l3 x11_3).f2) = (-1) then (curtilageref18_Right.j4 kj27 l0 l3 x11_3 (((rd_T44 l3 x11_3).f3) == (-1)) ((rd_T44 l3 x11_3).f0) ((rd_T44 l3 x11_3).f1) ((rd_T44 l3 x11_3).f2) ((rd_T44 l3 x11_3).f3)) else (curtilageref18_Right.j4 kj27 l0 l3 x11_3 false ((rd_T44 l3 x11_3).f0) ((rd_T44 l3 x11_3).f1) ((rd_T44 l3 x11_3).f2) ((rd_T44 l3 x11_3).f3))) = some r := by rw [if_neg (show ¬ (false = true) by decide)] at H; exact H
             clear H
             have H := H1
             clear H1
             have HC42 := am H
             clear H
             go_upto_region 15 with (fail)
             repeat (go_quiet (fail); go_upto_region 15 with (fail))
             go_cut [121] (fun v121 wc => ∃ (kq : Nat) (x121_41 : Bool), v121 = .bool x121_41 ∧ Aside0 (curtilageref18_Right.j4 kq l0 l3 x11_3 x121_41 ((rd_T44 l3 x11_3).f0) ((rd_T44 l3 x11_3).f1) ((rd_T44 l3 x11_3).f2) ((rd_T44 l3 x11_3).f3) = some r) ∧ Aside0 (kq ≤ kj27) ∧ Aside0 (wc.heap[gb450]? = some (.cells #[.int .i64 ((rd_T44 l3 x11_3).f0), .int .i64 ((rd_T44 l3 x11_3).f1), .int .i64 ((rd_T44 l3 x11_3).f2), .int .i64 ((rd_T44 l3 x11_3).f3)] 44 (0, 0))) ∧ Aside0 (Below w.heap.size w wc))
             case first =>
              have H := HC42.out
              clear HC42
              by_cases c43 : ((rd_T44 l3 x11_3).f2) = (-1)
              ·rw [if_pos c43] at H
               have c43b0 := beq_iff_eq.mpr c43
               have c43b1 := bne_eq_false_iff_eq.mpr c43
               clear c43
               (first | rw [c43b0] | (simp only [i64_w, i32_w]; rw [c43b0]) | skip)
               have H' := am H
               clear H
               obtain ⟨hcz44_0, hcz44_1, hcz44_2, hcz44_3, hfz44_0, hfz44_1, hfz44_2, hfz44_3⟩ := cl4 BK450
               go_wp2
               repeat (go_quiet (fail); try go_wp2)
               go_meet
               case rel => exact ⟨_, ((((rd_T44 l3 x11_3).f3) == (-1))), uf, H', ⟨by have := HJ4.out; have := HK2.out; have := HK3.out; have := HJ27.out; first | omega | exact Nat.le_refl _⟩, ⟨ub BK450.out⟩, ⟨uc HB.out⟩⟩
              ·rw [if_neg c43] at H
               have c43b0 := beq_eq_false_iff_ne.mpr c43
               have c43b1 := bne_iff_ne.mpr c43
               (first | rw [c43b0] | (simp only [i64_w, i32_w]; rw [c43b0]) | skip)
               have H' := am H
               clear H
               obtain ⟨hcz45_0, hcz45_1, hcz45_2, hcz45_3, hfz45_0, hfz45_1, hfz45_2, hfz45_3⟩ := cl4 BK450
               go_wp2
               repeat (go_quiet (fail); try go_wp2)
               go_meet
               case rel => exact ⟨_, (false), uf, H', ⟨by have := HJ4.out; have := HK2.out; have := HK3.out; have := HJ27.out; first | omega | exact Nat.le_refl _⟩, ⟨ub BK450.out⟩, ⟨uc HB.out⟩⟩
             case rest =>
              clear HC42
              obtain ⟨kq, x121_41, rfl, HA, HJ41, BK450, HB⟩ := hcut
              cases kq with
              | zero => exact absurd HA.out (by simp [curtilageref18_Right.j4])
              | succ kj41 =>
               have H := HA.out
               clear HA
               simp only [curtilageref18_Right.j4] at H
               by_cases c46 : x121_41 = true
               ·subst c46
                have H1 : (curtilageref18_Right.l1 kj41 l0 l3 (wrap64 (x11_3 + 1))) = some r := by rw [if_pos rfl] at H; exact H
                clear H
                have H := H1
                clear H1
                have H' := am H
                clear H
                go_wp2
                repeat (go_quiet (fail); try go_wp2)
                go_roundg kj41
                case measure => have := HJ4.out; have := HK2.out; have := HK3.out; have := HJ27.out; have := HJ41.out; omega
                case rel => exact ⟨(wrap64 (x11_3 + 1)), uf, H', ⟨by have := HJ4.out; have := HK2.out; have := HK3.out; have := HJ27.out; have := HJ41.out; omega⟩, ⟨uc HB.out⟩⟩
               ·replace c46 := Bool.eq_false_iff.mpr c46
                subst c46
                have H1 : (if ((rd_T44 l3 x11_3).f2) < 0 then (some false) else (if ((rd_T44 l3 x11_3).f2) ≥ (l0.length : Int) then (some false) else (if ((rd_T44 l3 x11_3).f3) < 0 then (some false) else (if 0 ≤ ((rd_T44 l3 x11_3).f2) then (if ((rd_T44 l3 x11_3).f2) < (l0.length : Int) then (if ((rd_T44 l3 x11_3).f3) ≥ (((rd_T28 l0 ((rd_T44 l3 x11_3).f2)).f3).length : Int) then (some false) else (if 0 ≤ ((rd_T44 l3 x11_3).f3) then (if ((rd_T44 l3 x11_3).f3) < (((rd_T28 l0 ((rd_T44 l3 x11_3).f2)).f3).length : Int) then (if ((rd_T35 ((rd_T28 l0 ((rd_T44 l3 x11_3).f2)).f3) ((rd_T44 l3 x11_3).f3)).f7 = true) then (curtilageref18_Right.l1 kj41 l0 l3 (wrap64 (x11_3 + 1))) else (some false)) else (none)) else (none))) else (none)) else (none))))) = some r := by rw [if_neg (show ¬ (false = true) by decide)] at H; exact H
                clear H
                have H := H1
                clear H1
                by_cases c47 : ((rd_T44 l3 x11_3).f2) < 0
                ·rw [if_pos c47] at H
                 have c47b0 := decide_eq_true c47
                 clear c47
                 obtain rfl := Option.some.inj H
                 obtain ⟨hcz48_0, hcz48_1, hcz48_2, hcz48_3, hfz48_0, hfz48_1, hfz48_2, hfz48_3⟩ := cl4 BK450
                 go_wp2
                 repeat (go_quiet (fail); try go_wp2)
                 go_ret
                 exact ur (uc HB.out)
                ·rw [if_neg c47] at H
                 have c47b0 := decide_eq_false c47
                 clear c47
                 by_cases c49 : ((rd_T44 l3 x11_3).f2) ≥ (l0.length : Int)
                 ·rw [if_pos c49] at H
                  have c49b0 : decide ((l0.length : Int) ≤ ((rd_T44 l3 x11_3).f2)) = true := decide_eq_true c49
                  clear c49
                  obtain rfl := Option.some.inj H
                  obtain ⟨hcz50_0, hcz50_1, hcz50_2, hcz50_3, hfz50_0, hfz50_1, hfz50_2, hfz50_3⟩ := cl4 BK450
                  go_wp2
                  repeat (go_quiet (fail); try go_wp2)
                  go_ret
                  exact ur (uc HB.out)
                 ·rw [if_neg c49] at H
                  have c49b0 : decide ((l0.length : Int) ≤ ((rd_T44 l3 x11_3).f2)) = false := decide_eq_false c49
                  clear c49
                  by_cases c51 : ((rd_T44 l3 x11_3).f3) < 0
                  ·rw [if_pos c51] at H
                   have c51b0 := decide_eq_true c51
                   clear c51
                   obtain rfl := Option.some.inj H
                   obtain ⟨hcz52_0, hcz52_1, hcz52_2, hcz52_3, hfz52_0, hfz52_1, hfz52_2, hfz52_3⟩ := cl4 BK450
                   go_wp2
                   repeat (go_quiet (fail); try go_wp2)
                   go_ret
                   exact ur (uc HB.out)
                  ·rw [if_neg c51] at H
                   have c51b0 := decide_eq_false c51
                   clear c51
                   obtain ⟨c53, H⟩ := ic H
                   have c53b0 : decide (0 ≤ ((rd_T44 l3 x11_3).f2)) = true := decide_eq_true c53
                   clear c53
                   obtain ⟨c54, H⟩ := ic H
                   have c54b0 : decide (((rd_T44 l3 x11_3).f2) < (l0.length : Int)) = true := decide_eq_true c54
                   clear c54
                   by_cases c55 : ((rd_T44 l3 x11_3).f3) ≥ (((rd_T28 l0 ((rd_T44 l3 x11_3).f2)).f3).length : Int)
                   ·rw [if_pos c55] at H
                    have c55b0 : decide ((((rd_T28 l0 ((rd_T44 l3 x11_3).f2)).f3).length : Int) ≤ ((rd_T44 l3 x11_3).f3)) = true := decide_eq_true c55
                    clear c55
                    obtain rfl := Option.some.inj H
                    obtain ⟨hcz56_0, hcz56_1, hcz56_2, hcz56_3, hfz56_0, hfz56_1, hfz56_2, hfz56_3⟩ := cl4 BK450
                    have p452 : 0 ≤ (((rd_T44 l3 x11_3).f2) : Int) := ud
                    have q452 : ((rd_T44 l3 x11_3).f2) < (l0.length : Int) := ud
                    obtain ⟨ad452, A452_1, c452_1, A452_2, c452_2, A452_3, c452_3, A452_4, c452_4, A452_5, c452_5, A452_6, c452_6, e452, hx452_0, hx452_1, hx452_2, hx452_3, hx452_4, hx452_5, hx452_6, hl452_1, hi452_1, hl452_2, hi452_2, hl452_3, hi452_3, hl452_4, hi452_4, hl452_5, hi452_5, hl452_6, hi452_6⟩ := at_T28 HR0.out ((rd_T44 l3 x11_3).f2) p452 q452
                    cases e452
                    replace hx452_0 := bcel HB hx452_0
                    replace hx452_1 := bcel HB hx452_1
                    replace hx452_2 := bcel HB hx452_2
                    replace hx452_3 := bcel HB hx452_3
                    replace hx452_4 := bcel HB hx452_4
                    replace hx452_5 := bcel HB hx452_5
                    replace hx452_6 := bcel HB hx452_6
                    have HR452_1 := am hi452_1
                    have HC452_1 := am hl452_1
                    clear hi452_1 hl452_1
                    have HR452_2 := am hi452_2
                    have HC452_2 := am hl452_2
                    clear hi452_2 hl452_2
                    have HR452_3 := am hi452_3
                    have HC452_3 := am hl452_3
                    clear hi452_3 hl452_3
                    have HR452_4 := am hi452_4
                    have HC452_4 := am hl452_4
                    clear hi452_4 hl452_4
                    have HR452_5 := am hi452_5
                    have HC452_5 := am hl452_5
                    clear hi452_5 hl452_5
                    have HR452_6 := am hi452_6
                    have HC452_6 := am hl452_6
                    clear hi452_6 hl452_6
                    replace p452 := eq_true p452
                    replace q452 := eq_true q452
                    go_wp2
                    repeat (go_quiet (fail); try go_wp2)
                    go_ret
                    exact ur (uc HB.out)
                   ·rw [if_neg c55] at H
                    have c55b0 : decide ((((rd_T28 l0 ((rd_T44 l3 x11_3).f2)).f3).length : Int) ≤ ((rd_T44 l3 x11_3).f3)) = false := decide_eq_false c55
                    clear c55
                    obtain ⟨c57, H⟩ := ic H
                    have c57b0 : decide (0 ≤ ((rd_T44 l3 x11_3).f3)) = true := decide_eq_true c57
                    clear c57
                    obtain ⟨c58, H⟩ := ic H
                    have c58b0 : decide (((rd_T44 l3 x11_3).f3) < (((rd_T28 l0 ((rd_T44 l3 x11_3).f2)).f3).length : Int)) = true := decide_eq_true c58
                    clear c58
                    obtain ⟨bq59, hbq59⟩ : ∃ b_ : Bool, b_ = ((rd_T35 ((rd_T28 l0 ((rd_T44 l3 x11_3).f2)).f3) ((rd_T44 l3 x11_3).f3)).f7) := ⟨_, rfl⟩
                    replace H : (if (bq59 = true) then (curtilageref18_Right.l1 kj41 l0 l3 (wrap64 (x11_3 + 1))) else (some false)) = some r := by rw [← hbq59] at H; exact H
                    have Nbq59 := am hbq59
                    clear hbq59
                    by_cases c60 : (bq59 = true)
                    ·subst c60
                     have H1 : (curtilageref18_Right.l1 kj41 l0 l3 (wrap64 (x11_3 + 1))) = some r := by rw [if_pos rfl] at H; exact H
                     clear H
                     have H := H1
                     clear H1
                     have H' := am H
                     clear H
                     obtain ⟨hcz61_0, hcz61_1, hcz61_2, hcz61_3, hfz61_0, hfz61_1, hfz61_2, hfz61_3⟩ := cl4 BK450
                     have p452 : 0 ≤ (((rd_T44 l3 x11_3).f2) : Int) := ud
                     have q452 : ((rd_T44 l3 x11_3).f2) < (l0.length : Int) := ud
                     obtain ⟨ad452, A452_1, c452_1, A452_2, c452_2, A452_3, c452_3, A452_4, c452_4, A452_5, c452_5, A452_6, c452_6, e452, hx452_0, hx452_1, hx452_2, hx452_3, hx452_4, hx452_5, hx452_6, hl452_1, hi452_1, hl452_2, hi452_2, hl452_3, hi452_3, hl452_4, hi452_4, hl452_5, hi452_5, hl452_6, hi452_6⟩ := at_T28 HR0.out ((rd_T44 l3 x11_3).f2) p452 q452
                     cases e452
                     replace hx452_0 := bcel HB hx452_0
                     replace hx452_1 := bcel HB hx452_1
                     replace hx452_2 := bcel HB hx452_2
                     replace hx452_3 := bcel HB hx452_3
                     replace hx452_4 := bcel HB hx452_4
                     replace hx452_5 := bcel HB hx452_5
                     replace hx452_6 := bcel HB hx452_6
                     have HR452_1 := am hi452_1
                     have HC452_1 := am hl452_1
                     clear hi452_1 hl452_1
                     have HR452_2 := am hi452_2
                     have HC452_2 := am hl452_2
                     clear hi452_2 hl452_2
                     have HR452_3 := am hi452_3
                     have HC452_3 := am hl452_3
                     clear hi452_3 hl452_3
                     have HR452_4 := am hi452_4
                     have HC452_4 := am hl452_4
                     clear hi452_4 hl452_4
                     have HR452_5 := am hi452_5
                     have HC452_5 := am hl452_5
                     clear hi452_5 hl452_5
                     have HR452_6 := am hi452_6
                     have HC452_6 := am hl452_6
                     clear hi452_6 hl452_6
                     replace p452 := eq_true p452
                     replace q452 := eq_true q452
                     have p453 : 0 ≤ (((rd_T44 l3 x11_3).f2) : Int) := ud
                     have q453 : ((rd_T44 l3 x11_3).f2) < (l0.length : Int) := ud
                     obtain ⟨ad453, A453_1, c453_1, A453_2, c453_2, A453_3, c453_3, A453_4, c453_4, A453_5, c453_5, A453_6, c453_6, e453, hx453_0, hx453_1, hx453_2, hx453_3, hx453_4, hx453_5, hx453_6, hl453_1, hi453_1, hl453_2, hi453_2, hl453_3, hi453_3, hl453_4, hi453_4, hl453_5, hi453_5, hl453_6, hi453_6⟩ := at_T28 HR0.out ((rd_T44 l3 x11_3).f2) p453 q453
                     obtain rfl : ad452 = ad453 := (by injection e453)
                     replace hx453_0 := bcel HB hx453_0
                     replace hx453_1 := bcel HB hx453_1
                     replace hx453_2 := bcel HB hx453_2
                     replace hx453_3 := bcel HB hx453_3
                     replace hx453_4 := bcel HB hx453_4
                     replace hx453_5 := bcel HB hx453_5
                     replace hx453_6 := bcel HB hx453_6
                     have HR453_1 := am hi453_1
                     have HC453_1 := am hl453_1
                     clear hi453_1 hl453_1
                     have HR453_2 := am hi453_2
                     have HC453_2 := am hl453_2
                     clear hi453_2 hl453_2
                     have HR453_3 := am hi453_3
                     have HC453_3 := am hl453_3
                     clear hi453_3 hl453_3
                     have HR453_4 := am hi453_4
                     have HC453_4 := am hl453_4
                     clear hi453_4 hl453_4
                     have HR453_5 := am hi453_5
                     have HC453_5 := am hl453_5
                     clear hi453_5 hl453_5
                     have HR453_6 := am hi453_6
                     have HC453_6 := am hl453_6
                     clear hi453_6 hl453_6
                     replace p453 := eq_true p453
                     replace q453 := eq_true q453
                     have ea_ := Option.some.inj (hx452_1.symm.trans hx453_1)
                     injection ea_ with ea_ en_ ec_
                     subst ea_
                     subst ec_
                     clear en_
                     have ea_ := Option.some.inj (hx452_2.symm.trans hx453_2)
                     injection ea_ with ea_ en_ ec_
                     subst ea_
                     subst ec_
                     clear en_
                     have ea_ := Option.some.inj (hx452_3.symm.trans hx453_3)
                     injection ea_ with ea_ en_ ec_
                     subst ea_
                     subst ec_
                     clear en_
                     have ea_ := Option.some.inj (hx452_4.symm.trans hx453_4)
                     injection ea_ with ea_ en_ ec_
                     subst ea_
                     subst ec_
                     clear en_
                     have ea_ := Option.some.inj (hx452_5.symm.trans hx453_5)
                     injection ea_ with ea_ en_ ec_
                     subst ea_
                     subst ec_
                     clear en_
                     have ea_ := Option.some.inj (hx452_6.symm.trans hx453_6)
                     injection ea_ with ea_ en_ ec_
                     subst ea_
                     subst ec_
                     clear en_
                     have p454 : 0 ≤ (((rd_T44 l3 x11_3).f3) : Int) := ud
                     have q454 : ((rd_T44 l3 x11_3).f3) < (((rd_T28 l0 ((rd_T44 l3 x11_3).f2)).f3).length : Int) := ud
                     obtain ⟨ad454, e454, hx454_0, hx454_1, hx454_2, hx454_3, hx454_4, hx454_5, hx454_6, hx454_7⟩ := at_T35 HR453_3.out ((rd_T44 l3 x11_3).f3) p454 q454
                     (try rw [← Nbq59.out] at hx454_7)
                     (try rw [← Nbq59.out] at hw454_7)
                     cases e454
                     replace hx454_0 := bcel HB hx454_0
                     replace hx454_1 := bcel HB hx454_1
                     replace hx454_2 := bcel HB hx454_2
                     replace hx454_3 := bcel HB hx454_3
                     replace hx454_4 := bcel HB hx454_4
                     replace hx454_5 := bcel HB hx454_5
                     replace hx454_6 := bcel HB hx454_6
                     replace hx454_7 := bcel HB hx454_7
                     replace p454 := eq_true p454
                     replace q454 := eq_true q454
                     go_wp2
                     repeat (go_quiet (fail); try go_wp2)
                     go_roundg kj41
                     case measure => have := HJ4.out; have := HK2.out; have := HK3.out; have := HJ27.out; have := HJ41.out; omega
                     case rel => exact ⟨(wrap64 (x11_3 + 1)), uf, (by first | exact H' | (rw [← Nbq59.out]; exact H')), ⟨by have := HJ4.out; have := HK2.out; have := HK3.out; have := HJ27.out; have := HJ41.out; omega⟩, ⟨uc HB.out⟩⟩
                    ·replace c60 := Bool.eq_false_iff.mpr c60
                     subst c60
                     have H1 : (some false) = some r := by rw [if_neg (show ¬ (false = true) by decide)] at H; exact H
                     clear H
                     have H := H1
                     clear H1
                     obtain rfl := Option.some.inj H
                     obtain ⟨hcz62_0, hcz62_1, hcz62_2, hcz62_3, hfz62_0, hfz62_1, hfz62_2, hfz62_3⟩ := cl4 BK450
                     have p452 : 0 ≤ (((rd_T44 l3 x11_3).f2) : Int) := ud
                     have q452 : ((rd_T44 l3 x11_3).f2) < (l0.length : Int) := ud
                     obtain ⟨ad452, A452_1, c452_1, A452_2, c452_2, A452_3, c452_3, A452_4, c452_4, A452_5, c452_5, A452_6, c452_6, e452, hx452_0, hx452_1, hx452_2, hx452_3, hx452_4, hx452_5, hx452_6, hl452_1, hi452_1, hl452_2, hi452_2, hl452_3, hi452_3, hl452_4, hi452_4, hl452_5, hi452_5, hl452_6, hi452_6⟩ := at_T28 HR0.out ((rd_T44 l3 x11_3).f2) p452 q452
                     cases e452
                     replace hx452_0 := bcel HB hx452_0
                     replace hx452_1 := bcel HB hx452_1
                     replace hx452_2 := bcel HB hx452_2
                     replace hx452_3 := bcel HB hx452_3
                     replace hx452_4 := bcel HB hx452_4
                     replace hx452_5 := bcel HB hx452_5
                     replace hx452_6 := bcel HB hx452_6
                     have HR452_1 := am hi452_1
                     have HC452_1 := am hl452_1
                     clear hi452_1 hl452_1
                     have HR452_2 := am hi452_2
                     have HC452_2 := am hl452_2
                     clear hi452_2 hl452_2
                     have HR452_3 := am hi452_3
                     have HC452_3 := am hl452_3
                     clear hi452_3 hl452_3
                     have HR452_4 := am hi452_4
                     have HC452_4 := am hl452_4
                     clear hi452_4 hl452_4
                     have HR452_5 := am hi452_5
                     have HC452_5 := am hl452_5
                     clear hi452_5 hl452_5
                     have HR452_6 := am hi452_6
                     have HC452_6 := am hl452_6
                     clear hi452_6 hl452_6
                     replace p452 := eq_true p452
                     replace q452 := eq_true q452
                     have p453 : 0 ≤ (((rd_T44 l3 x11_3).f2) : Int) := ud
                     have q453 : ((rd_T44 l3 x11_3).f2) < (l0.length : Int) := ud
                     obtain ⟨ad453, A453_1, c453_1, A453_2, c453_2, A453_3, c453_3, A453_4, c453_4, A453_5, c453_5, A453_6, c453_6, e453, hx453_0, hx453_1, hx453_2, hx453_3, hx453_4, hx453_5, hx453_6, hl453_1, hi453_1, hl453_2, hi453_2, hl453_3, hi453_3, hl453_4, hi453_4, hl453_5, hi453_5, hl453_6, hi453_6⟩ := at_T28 HR0.out ((rd_T44 l3 x11_3).f2) p453 q453
                     obtain rfl : ad452 = ad453 := (by injection e453)
                     replace hx453_0 := bcel HB hx453_0
                     replace hx453_1 := bcel HB hx453_1
                     replace hx453_2 := bcel HB hx453_2
                     replace hx453_3 := bcel HB hx453_3
                     replace hx453_4 := bcel HB hx453_4
                     replace hx453_5 := bcel HB hx453_5
                     replace hx453_6 := bcel HB hx453_6
                     have HR453_1 := am hi453_1
                     have HC453_1 := am hl453_1
                     clear hi453_1 hl453_1
                     have HR453_2 := am hi453_2
                     have HC453_2 := am hl453_2
                     clear hi453_2 hl453_2
                     have HR453_3 := am hi453_3
                     have HC453_3 := am hl453_3
                     clear hi453_3 hl453_3
                     have HR453_4 := am hi453_4
                     have HC453_4 := am hl453_4
                     clear hi453_4 hl453_4
                     have HR453_5 := am hi453_5
                     have HC453_5 := am hl453_5
                     clear hi453_5 hl453_5
                     have HR453_6 := am hi453_6
                     have HC453_6 := am hl453_6
                     clear hi453_6 hl453_6
                     replace p453 := eq_true p453
                     replace q453 := eq_true q453
                     have ea_ := Option.some.inj (hx452_1.symm.trans hx453_1)
                     injection ea_ with ea_ en_ ec_
                     subst ea_
                     subst ec_
                     clear en_
                     have ea_ := Option.some.inj (hx452_2.symm.trans hx453_2)
                     injection ea_ with ea_ en_ ec_
                     subst ea_
                     subst ec_
                     clear en_
                     have ea_ := Option.some.inj (hx452_3.symm.trans hx453_3)
                     injection ea_ with ea_ en_ ec_
                     subst ea_
                     subst ec_
                     clear en_
                     have ea_ := Option.some.inj (hx452_4.symm.trans hx453_4)
                     injection ea_ with ea_ en_ ec_
                     subst ea_
                     subst ec_
                     clear en_
                     have ea_ := Option.some.inj (hx452_5.symm.trans hx453_5)
                     injection ea_ with ea_ en_ ec_
                     subst ea_
                     subst ec_
                     clear en_
                     have ea_ := Option.some.inj (hx452_6.symm.trans hx453_6)
                     injection ea_ with ea_ en_ ec_
                     subst ea_
                     subst ec_
                     clear en_
                     have p454 : 0 ≤ (((rd_T44 l3 x11_3).f3) : Int) := ud
                     have q454 : ((rd_T44 l3 x11_3).f3) < (((rd_T28 l0 ((rd_T44 l3 x11_3).f2)).f3).length : Int) := ud
                     obtain ⟨ad454, e454, hx454_0, hx454_1, hx454_2, hx454_3, hx454_4, hx454_5, hx454_6, hx454_7⟩ := at_T35 HR453_3.out ((rd_T44 l3 x11_3).f3) p454 q454
                     (try rw [← Nbq59.out] at hx454_7)
                     (try rw [← Nbq59.out] at hw454_7)
                     cases e454
                     replace hx454_0 := bcel HB hx454_0
                     replace hx454_1 := bcel HB hx454_1
                     replace hx454_2 := bcel HB hx454_2
                     replace hx454_3 := bcel HB hx454_3
                     replace hx454_4 := bcel HB hx454_4
                     replace hx454_5 := bcel HB hx454_5
                     replace hx454_6 := bcel HB hx454_6
                     replace hx454_7 := bcel HB hx454_7
                     replace p454 := eq_true p454
                     replace q454 := eq_true q454
                     go_wp2
                     repeat (go_quiet (fail); try go_wp2)
                     go_ret
                     exact ur (uc HB.out)
         ·rw [if_neg c26] at H
          have c26b0 := decide_eq_false c26
          clear c26
          obtain rfl := Option.some.inj H
          go_wp2
          repeat (go_quiet (fail); try go_wp2)
          go_ret
          exact ur (uc HB.out)

end Go.Proofs.Ytlbfeklpncoccaa.P
