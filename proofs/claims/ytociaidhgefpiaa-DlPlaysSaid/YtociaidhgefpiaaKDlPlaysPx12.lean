/- What functions of the program, and of its laws, give, each proved of its code by a walk; no condition. -/
import Derived.Test.YtociaidhgefpiaaKDlPlaysPx0
import Derived.Test.YtociaidhgefpiaaKDlPlaysPx1
import Derived.Test.YtociaidhgefpiaaKDlPlaysSq
import Derived.Test.YtociaidhgefpiaaKDlPlaysUsh
namespace Go.Proofs.Ytociaidhgefpiaa.P
open Go.RowKit Go.Proofs.YtociaidhgefpiaaW.PrintWords Go.Proofs.YtociaidhgefpiaaW.PrintLast Go.Proofs.YtociaidhgefpiaaW.PrintMore
attribute [local go_sem] max2_int min2_int max_two min_two max_three min_three max_four min_four   -- for this text's walks alone
set_option linter.unusedVariables false
set_option linter.unusedSimpArgs false

mutual
def curtilageref13_Right.l0 : Nat → List Int → Int → Int → Option (Bool)
  | 0, _, _, _ => none
  | k + 1, x0, x1, x5 => if x5 < (x0.length : Int) then (if 0 ≤ x5 then (if (rd x0 x5) < 0 then (curtilageref13_Right.j1 k x0 x1 x5 true) else (curtilageref13_Right.j1 k x0 x1 x5 (decide ((rd x0 x5) ≥ x1)))) else (none)) else (some true)
def curtilageref13_Right.j1 : Nat → List Int → Int → Int → Bool → Option (Bool)
  | 0, _, _, _, _ => none
  | k + 1, x0, x1, x5, x25 => if x25 = true then (some false) else (curtilageref13_Right.l1 k x0 x1 x5 0)
def curtilageref13_Right.l1 : Nat → List Int → Int → Int → Int → Option (Bool)
  | 0, _, _, _, _ => none
  | k + 1, x0, x1, x5, x6 => if x6 < x5 then (if 0 ≤ x6 then (if x6 < (x0.length : Int) then (if 0 ≤ x5 then (if x5 < (x0.length : Int) then (if (rd x0 x6) = (rd x0 x5) then (some false) else (curtilageref13_Right.l1 k x0 x1 x5 (wrap64 (x6 + 1)))) else (none)) else (none)) else (none)) else (none)) else (curtilageref13_Right.l0 k x0 x1 (wrap64 (x5 + 1)))
end
def curtilageref13_Right.f (k : Nat) (l0 : List Int) (a1 : Int) : Option (Bool) := curtilageref13_Right.l0 k l0 a1 0
theorem curtilageref13_Right.mono_l : ∀ k, (∀ y0 y1 y2, LeO (curtilageref13_Right.l0 k y0 y1 y2) (curtilageref13_Right.l0 (k + 1) y0 y1 y2)) ∧ (∀ y0 y1 y2 y3, LeO (curtilageref13_Right.j1 k y0 y1 y2 y3) (curtilageref13_Right.j1 (k + 1) y0 y1 y2 y3)) ∧ (∀ y0 y1 y2 y3, LeO (curtilageref13_Right.l1 k y0 y1 y2 y3) (curtilageref13_Right.l1 (k + 1) y0 y1 y2 y3))
  | 0 => ⟨fun _ _ _ r h => by simp [curtilageref13_Right.l0] at h, fun _ _ _ _ r h => by simp [curtilageref13_Right.j1] at h, fun _ _ _ _ r h => by simp [curtilageref13_Right.l1] at h⟩
  | k + 1 => by
    obtain ⟨ih0, ih1, ih2⟩ := curtilageref13_Right.mono_l k
    refine ⟨?_, ?_, ?_⟩
    · intro y0 y1 y2
      unfold curtilageref13_Right.l0
      repeat' first
      | (with_reducible exact ih0 _ _ _)
      | (with_reducible exact ih1 _ _ _ _)
      | (with_reducible exact ih2 _ _ _ _)
      | (with_reducible exact LeO.refl _)
      | (with_reducible exact LeO.none _)
      | (with_reducible refine LeO.ite ?_ ?_)
      | (with_reducible refine LeO.bind ?_ (fun _ => ?_))
      | exact ih0 _ _ _
      | exact ih1 _ _ _ _
      | exact ih2 _ _ _ _
      | exact LeO.none _
      | refine LeO.ite ?_ ?_
      | refine LeO.bind ?_ (fun _ => ?_)
    · intro y0 y1 y2 y3
      unfold curtilageref13_Right.j1
      repeat' first
      | (with_reducible exact ih0 _ _ _)
      | (with_reducible exact ih1 _ _ _ _)
      | (with_reducible exact ih2 _ _ _ _)
      | (with_reducible exact LeO.refl _)
      | (with_reducible exact LeO.none _)
      | (with_reducible refine LeO.ite ?_ ?_)
      | (with_reducible refine LeO.bind ?_ (fun _ => ?_))
      | exact ih0 _ _ _
      | exact ih1 _ _ _ _
      | exact ih2 _ _ _ _
      | exact LeO.none _
      | refine LeO.ite ?_ ?_
      | refine LeO.bind ?_ (fun _ => ?_)
    · intro y0 y1 y2 y3
      unfold curtilageref13_Right.l1
      repeat' first
      | (with_reducible exact ih0 _ _ _)
      | (with_reducible exact ih1 _ _ _ _)
      | (with_reducible exact ih2 _ _ _ _)
      | (with_reducible exact LeO.refl _)
      | (with_reducible exact LeO.none _)
      | (with_reducible refine LeO.ite ?_ ?_)
      | (with_reducible refine LeO.bind ?_ (fun _ => ?_))
      | exact ih0 _ _ _
      | exact ih1 _ _ _ _
      | exact ih2 _ _ _ _
      | exact LeO.none _
      | refine LeO.ite ?_ ?_
      | refine LeO.bind ?_ (fun _ => ?_)
theorem curtilageref13_Right.mono : ∀ a0 a1 k, LeO (curtilageref13_Right.f k a0 a1) (curtilageref13_Right.f (k + 1) a0 a1) := by
  intro a0 a1 k
  obtain ⟨ih0, ih1, ih2⟩ := curtilageref13_Right.mono_l k
  unfold curtilageref13_Right.f
  repeat' first
      | (with_reducible exact ih0 _ _ _)
      | (with_reducible exact ih1 _ _ _ _)
      | (with_reducible exact ih2 _ _ _ _)
      | (with_reducible exact LeO.refl _)
      | (with_reducible exact LeO.none _)
      | (with_reducible refine LeO.ite ?_ ?_)
      | (with_reducible refine LeO.bind ?_ (fun _ => ?_))
      | exact ih0 _ _ _
      | exact ih1 _ _ _ _
      | exact ih2 _ _ _ _
      | exact LeO.none _
      | refine LeO.ite ?_ ?_
      | refine LeO.bind ?_ (fun _ => ?_)
def curtilageref13_Needs.l0 : Nat → List (S38) → Int → Int → Int → Option (Bool)
  | 0, _, _, _, _ => none
  | k + 1, x0, x1, x2, x7 => if 0 ≤ x1 then (if x1 < (x0.length : Int) then (if x7 < (((rd_T38 x0 x1).f1).length : Int) then (if 0 ≤ x7 then ((curtilageref13_Find.f k x0 (rdOf ByteArray.empty ((rd_T38 x0 x1).f1) x7)).bind fun t413 => (if t413 = x2 then (some true) else (curtilageref13_Needs.l0 k x0 x1 x2 (wrap64 (x7 + 1))))) else (none)) else (some false)) else (none)) else (none)
def curtilageref13_Needs.f (k : Nat) (l0 : List (S38)) (a1 : Int) (a2 : Int) : Option (Bool) := curtilageref13_Needs.l0 k l0 a1 a2 0
theorem curtilageref13_Needs.mono_l : ∀ k, (∀ y0 y1 y2 y3, LeO (curtilageref13_Needs.l0 k y0 y1 y2 y3) (curtilageref13_Needs.l0 (k + 1) y0 y1 y2 y3))
  | 0 => fun _ _ _ _ r h => by simp [curtilageref13_Needs.l0] at h
  | k + 1 => by
    have ih0 := curtilageref13_Needs.mono_l k
    · intro y0 y1 y2 y3
      unfold curtilageref13_Needs.l0
      repeat' first
      | (with_reducible exact ih0 _ _ _ _)
      | (with_reducible exact curtilageref13_Find.mono _ _ _)
      | (with_reducible exact LeO.refl _)
      | (with_reducible exact LeO.none _)
      | (with_reducible refine LeO.ite ?_ ?_)
      | (with_reducible refine LeO.bind ?_ (fun _ => ?_))
      | exact ih0 _ _ _ _
      | exact curtilageref13_Find.mono _ _ _
      | exact LeO.none _
      | refine LeO.ite ?_ ?_
      | refine LeO.bind ?_ (fun _ => ?_)
theorem curtilageref13_Needs.mono : ∀ a0 a1 a2 k, LeO (curtilageref13_Needs.f k a0 a1 a2) (curtilageref13_Needs.f (k + 1) a0 a1 a2) := by
  intro a0 a1 a2 k
  have ih0 := curtilageref13_Needs.mono_l k
  unfold curtilageref13_Needs.f
  repeat' first
      | (with_reducible exact ih0 _ _ _ _)
      | (with_reducible exact curtilageref13_Find.mono _ _ _)
      | (with_reducible exact LeO.refl _)
      | (with_reducible exact LeO.none _)
      | (with_reducible refine LeO.ite ?_ ?_)
      | (with_reducible refine LeO.bind ?_ (fun _ => ?_))
      | exact ih0 _ _ _ _
      | exact curtilageref13_Find.mono _ _ _
      | exact LeO.none _
      | refine LeO.ite ?_ ?_
      | refine LeO.bind ?_ (fun _ => ?_)
set_option maxHeartbeats 8000000 in
set_option maxRecDepth 100000 in
theorem curtilageref13_Needs.calls (k : Nat) (A0 : Option Addr) (c0 : Nat) (l0 : List (S38)) (a1 : Int) (a2 : Int) (r : Bool) (w : World) (hr0 : Kd.C k38 w A0 l0.length l0) (hc0 : l0.length ≤ c0) (h : curtilageref13_Needs.f k l0 a1 a2 = some r) :
  Calls Try.prog 18 #[.slice A0 l0.length c0, .int .i64 a1, .int .i64 a2] w fun e w' => e = .returned (.bool r) ∧ Drawn0 w w' := by
 have HR0 := am hr0
 have HC0 := am hc0
 clear hr0 hc0
 have H : (curtilageref13_Needs.l0 k l0 a1 a2 0) = some r := h
 clear h
 have H' := am H
 clear H
 go_enter Try.func18, Try.ntmps18
 go_wp2
 go_loopg [7] k (fun kq v7 w' => ∃ (x7_1 : Int), v7 = .int .i64 x7_1 ∧ Aside0 (curtilageref13_Needs.l0 kq l0 a1 a2 x7_1 = some r) ∧ Aside0 (kq ≤ k) ∧ Drawn0 w w')
 case atStart => exact ⟨(0), uf, H', ⟨Nat.le_refl _⟩, by repeat (first | exact Drawn0.refl _ | apply Drawn0.step)⟩
 case round =>
  clear H'
  try clear c1
  try clear p2
  obtain ⟨x7_1, rfl, HA, HK1, ⟨m1, rfl⟩⟩ := hrel
  cases gk with
  | zero => exact absurd HA.out (by simp [curtilageref13_Needs.l0])
  | succ k1 =>
   have H := HA.out
   clear HA
   simp only [curtilageref13_Needs.l0] at H
   by_cases c4 : 0 ≤ a1
   ·rw [if_pos c4] at H
    have c4b0 : decide (0 ≤ a1) = true := decide_eq_true c4
    clear c4
    by_cases c5 : a1 < (l0.length : Int)
    ·rw [if_pos c5] at H
     have c5b0 : decide (a1 < (l0.length : Int)) = true := decide_eq_true c5
     clear c5
     by_cases c6 : x7_1 < (((rd_T38 l0 a1).f1).length : Int)
     ·rw [if_pos c6] at H
      have c6b0 : decide (x7_1 < (((rd_T38 l0 a1).f1).length : Int)) = true := decide_eq_true c6
      clear c6
      by_cases c7 : 0 ≤ x7_1
      ·rw [if_pos c7] at H
       have c7b0 : decide (0 ≤ x7_1) = true := decide_eq_true c7
       clear c7
       replace H := Option.bind_eq_some_iff.mp H
       obtain ⟨t413, A80, H⟩ := H
       replace H : (if t413 = a2 then (some true) else (curtilageref13_Needs.l0 k1 l0 a1 a2 (wrap64 (x7_1 + 1)))) = some r := H
       have A8 := am A80
       clear A80
       by_cases c9 : t413 = a2
       ·rw [if_pos c9] at H
        have c9b0 : (t413 == a2) = true := beq_iff_eq.mpr c9
        have c9b1 : (t413 != a2) = false := bne_eq_false_iff_eq.mpr c9
        clear c9
        obtain rfl := Option.some.inj H
        have p410 : 0 ≤ (a1 : Int) := ud
        have q410 : a1 < (l0.length : Int) := ud
        obtain ⟨ad410, A410_1, c410_1, A410_2, c410_2, A410_3, c410_3, A410_4, c410_4, A410_5, c410_5, A410_6, c410_6, e410, hx410_0, hx410_1, hx410_2, hx410_3, hx410_4, hx410_5, hx410_6, hl410_1, hi410_1, hl410_2, hi410_2, hl410_3, hi410_3, hl410_4, hi410_4, hl410_5, hi410_5, hl410_6, hi410_6⟩ := at_T38 HR0.out a1 p410 q410
        cases e410
        have HR410_1 := am hi410_1
        have HC410_1 := am hl410_1
        clear hi410_1 hl410_1
        have HR410_2 := am hi410_2
        have HC410_2 := am hl410_2
        clear hi410_2 hl410_2
        have HR410_3 := am hi410_3
        have HC410_3 := am hl410_3
        clear hi410_3 hl410_3
        have HR410_4 := am hi410_4
        have HC410_4 := am hl410_4
        clear hi410_4 hl410_4
        have HR410_5 := am hi410_5
        have HC410_5 := am hl410_5
        clear hi410_5 hl410_5
        have HR410_6 := am hi410_6
        have HC410_6 := am hl410_6
        clear hi410_6 hl410_6
        replace p410 := eq_true p410
        replace q410 := eq_true q410
        have p411 : 0 ≤ (a1 : Int) := ud
        have q411 : a1 < (l0.length : Int) := ud
        obtain ⟨ad411, A411_1, c411_1, A411_2, c411_2, A411_3, c411_3, A411_4, c411_4, A411_5, c411_5, A411_6, c411_6, e411, hx411_0, hx411_1, hx411_2, hx411_3, hx411_4, hx411_5, hx411_6, hl411_1, hi411_1, hl411_2, hi411_2, hl411_3, hi411_3, hl411_4, hi411_4, hl411_5, hi411_5, hl411_6, hi411_6⟩ := at_T38 HR0.out a1 p411 q411
        obtain rfl : ad410 = ad411 := (by injection e411)
        have HR411_1 := am hi411_1
        have HC411_1 := am hl411_1
        clear hi411_1 hl411_1
        have HR411_2 := am hi411_2
        have HC411_2 := am hl411_2
        clear hi411_2 hl411_2
        have HR411_3 := am hi411_3
        have HC411_3 := am hl411_3
        clear hi411_3 hl411_3
        have HR411_4 := am hi411_4
        have HC411_4 := am hl411_4
        clear hi411_4 hl411_4
        have HR411_5 := am hi411_5
        have HC411_5 := am hl411_5
        clear hi411_5 hl411_5
        have HR411_6 := am hi411_6
        have HC411_6 := am hl411_6
        clear hi411_6 hl411_6
        replace p411 := eq_true p411
        replace q411 := eq_true q411
        have ea_ := Option.some.inj (hx410_1.symm.trans hx411_1)
        injection ea_ with ea_ en_ ec_
        subst ea_
        subst ec_
        clear en_
        have ea_ := Option.some.inj (hx410_2.symm.trans hx411_2)
        injection ea_ with ea_ en_ ec_
        subst ea_
        subst ec_
        clear en_
        have ea_ := Option.some.inj (hx410_3.symm.trans hx411_3)
        injection ea_ with ea_ en_ ec_
        subst ea_
        subst ec_
        clear en_
        have ea_ := Option.some.inj (hx410_4.symm.trans hx411_4)
        injection ea_ with ea_ en_ ec_
        subst ea_
        subst ec_
        clear en_
        have ea_ := Option.some.inj (hx410_5.symm.trans hx411_5)
        injection ea_ with ea_ en_ ec_
        subst ea_
        subst ec_
        clear en_
        have ea_ := Option.some.inj (hx410_6.symm.trans hx411_6)
        injection ea_ with ea_ en_ ec_
        subst ea_
        subst ec_
        clear en_
        have p412 : 0 ≤ (x7_1 : Int) := ud
        have q412 : x7_1 < (((rd_T38 l0 a1).f1).length : Int) := ud
        obtain ⟨ad412, e412, hx412_0⟩ := Kd.at_string HR411_1.out x7_1 p412 q412
        cases e412
        replace p412 := eq_true p412
        replace q412 := eq_true q412
        go_wp2_with (first | ((with_reducible refine gate_dst (N := 27) rfl ?_); (with_reducible refine gate_callee (f := 21) rfl ?_); refine gl (some 27) Try.func21 #[.slice (some ad410) l0.length c0, .string (rdOf ByteArray.empty ((rd_T38 l0 a1).f1) x7_1)] ?_; (with_reducible refine (curtilageref13_Find.calls k1 _ _ l0 (rdOf ByteArray.empty ((rd_T38 l0 a1).f1) x7_1) t413 _ ?side1 ?side2 A8.out).mono ?_); (case side1 => exact us HR0.out); (case side2 => exact HC0.out); rintro e w' ⟨rfl, ⟨nd, rfl⟩⟩; refine ⟨_, rfl, ?_⟩))
        go_ret
        exact ⟨by first | rfl | (simp; done) | (simp [*]; done), by repeat (first | exact Drawn0.refl _ | apply Drawn0.step)⟩
       ·rw [if_neg c9] at H
        have c9b0 : (t413 == a2) = false := beq_eq_false_iff_ne.mpr c9
        have c9b1 : (t413 != a2) = true := bne_iff_ne.mpr c9
        have H' := am H
        clear H
        have p410 : 0 ≤ (a1 : Int) := ud
        have q410 : a1 < (l0.length : Int) := ud
        obtain ⟨ad410, A410_1, c410_1, A410_2, c410_2, A410_3, c410_3, A410_4, c410_4, A410_5, c410_5, A410_6, c410_6, e410, hx410_0, hx410_1, hx410_2, hx410_3, hx410_4, hx410_5, hx410_6, hl410_1, hi410_1, hl410_2, hi410_2, hl410_3, hi410_3, hl410_4, hi410_4, hl410_5, hi410_5, hl410_6, hi410_6⟩ := at_T38 HR0.out a1 p410 q410
        cases e410
        have HR410_1 := am hi410_1
        have HC410_1 := am hl410_1
        clear hi410_1 hl410_1
        have HR410_2 := am hi410_2
        have HC410_2 := am hl410_2
        clear hi410_2 hl410_2
        have HR410_3 := am hi410_3
        have HC410_3 := am hl410_3
        clear hi410_3 hl410_3
        have HR410_4 := am hi410_4
        have HC410_4 := am hl410_4
        clear hi410_4 hl410_4
        have HR410_5 := am hi410_5
        have HC410_5 := am hl410_5
        clear hi410_5 hl410_5
        have HR410_6 := am hi410_6
        have HC410_6 := am hl410_6
        clear hi410_6 hl410_6
        replace p410 := eq_true p410
        replace q410 := eq_true q410
        have p411 : 0 ≤ (a1 : Int) := ud
        have q411 : a1 < (l0.length : Int) := ud
        obtain ⟨ad411, A411_1, c411_1, A411_2, c411_2, A411_3, c411_3, A411_4, c411_4, A411_5, c411_5, A411_6, c411_6, e411, hx411_0, hx411_1, hx411_2, hx411_3, hx411_4, hx411_5, hx411_6, hl411_1, hi411_1, hl411_2, hi411_2, hl411_3, hi411_3, hl411_4, hi411_4, hl411_5, hi411_5, hl411_6, hi411_6⟩ := at_T38 HR0.out a1 p411 q411
        obtain rfl : ad410 = ad411 := (by injection e411)
        have HR411_1 := am hi411_1
        have HC411_1 := am hl411_1
        clear hi411_1 hl411_1
        have HR411_2 := am hi411_2
        have HC411_2 := am hl411_2
        clear hi411_2 hl411_2
        have HR411_3 := am hi411_3
        have HC411_3 := am hl411_3
        clear hi411_3 hl411_3
        have HR411_4 := am hi411_4
        have HC411_4 := am hl411_4
        clear hi411_4 hl411_4
        have HR411_5 := am hi411_5
        have HC411_5 := am hl411_5
        clear hi411_5 hl411_5
        have HR411_6 := am hi411_6
        have HC411_6 := am hl411_6
        clear hi411_6 hl411_6
        replace p411 := eq_true p411
        replace q411 := eq_true q411
        have ea_ := Option.some.inj (hx410_1.symm.trans hx411_1)
        injection ea_ with ea_ en_ ec_
        subst ea_
        subst ec_
        clear en_
        have ea_ := Option.some.inj (hx410_2.symm.trans hx411_2)
        injection ea_ with ea_ en_ ec_
        subst ea_
        subst ec_
        clear en_
        have ea_ := Option.some.inj (hx410_3.symm.trans hx411_3)
        injection ea_ with ea_ en_ ec_
        subst ea_
        subst ec_
        clear en_
        have ea_ := Option.some.inj (hx410_4.symm.trans hx411_4)
        injection ea_ with ea_ en_ ec_
        subst ea_
        subst ec_
        clear en_
        have ea_ := Option.some.inj (hx410_5.symm.trans hx411_5)
        injection ea_ with ea_ en_ ec_
        subst ea_
        subst ec_
        clear en_
        have ea_ := Option.some.inj (hx410_6.symm.trans hx411_6)
        injection ea_ with ea_ en_ ec_
        subst ea_
        subst ec_
        clear en_
        have p412 : 0 ≤ (x7_1 : Int) := ud
        have q412 : x7_1 < (((rd_T38 l0 a1).f1).length : Int) := ud
        obtain ⟨ad412, e412, hx412_0⟩ := Kd.at_string HR411_1.out x7_1 p412 q412
        cases e412
        replace p412 := eq_true p412
        replace q412 := eq_true q412
        go_wp2_with (first | ((with_reducible refine gate_dst (N := 27) rfl ?_); (with_reducible refine gate_callee (f := 21) rfl ?_); refine gl (some 27) Try.func21 #[.slice (some ad410) l0.length c0, .string (rdOf ByteArray.empty ((rd_T38 l0 a1).f1) x7_1)] ?_; (with_reducible refine (curtilageref13_Find.calls k1 _ _ l0 (rdOf ByteArray.empty ((rd_T38 l0 a1).f1) x7_1) t413 _ ?side1 ?side2 A8.out).mono ?_); (case side1 => exact us HR0.out); (case side2 => exact HC0.out); rintro e w' ⟨rfl, ⟨nd, rfl⟩⟩; refine ⟨_, rfl, ?_⟩))
        go_roundg k1
        case measure => have := HK1.out; omega
        case rel => exact ⟨(wrap64 (x7_1 + 1)), uf, H', ⟨by have := HK1.out; omega⟩, by repeat (first | exact Drawn0.refl _ | apply Drawn0.step)⟩
      ·rw [if_neg c7] at H
       exact absurd H (by simp)
     ·rw [if_neg c6] at H
      have c6b0 : decide (x7_1 < (((rd_T38 l0 a1).f1).length : Int)) = false := decide_eq_false c6
      clear c6
      obtain rfl := Option.some.inj H
      have p410 : 0 ≤ (a1 : Int) := ud
      have q410 : a1 < (l0.length : Int) := ud
      obtain ⟨ad410, A410_1, c410_1, A410_2, c410_2, A410_3, c410_3, A410_4, c410_4, A410_5, c410_5, A410_6, c410_6, e410, hx410_0, hx410_1, hx410_2, hx410_3, hx410_4, hx410_5, hx410_6, hl410_1, hi410_1, hl410_2, hi410_2, hl410_3, hi410_3, hl410_4, hi410_4, hl410_5, hi410_5, hl410_6, hi410_6⟩ := at_T38 HR0.out a1 p410 q410
      cases e410
      have HR410_1 := am hi410_1
      have HC410_1 := am hl410_1
      clear hi410_1 hl410_1
      have HR410_2 := am hi410_2
      have HC410_2 := am hl410_2
      clear hi410_2 hl410_2
      have HR410_3 := am hi410_3
      have HC410_3 := am hl410_3
      clear hi410_3 hl410_3
      have HR410_4 := am hi410_4
      have HC410_4 := am hl410_4
      clear hi410_4 hl410_4
      have HR410_5 := am hi410_5
      have HC410_5 := am hl410_5
      clear hi410_5 hl410_5
      have HR410_6 := am hi410_6
      have HC410_6 := am hl410_6
      clear hi410_6 hl410_6
      replace p410 := eq_true p410
      replace q410 := eq_true q410
      go_wp2
      go_ret
      exact ⟨by first | rfl | (simp; done) | (simp [*]; done), by repeat (first | exact Drawn0.refl _ | apply Drawn0.step)⟩
    ·rw [if_neg c5] at H
     exact absurd H (by simp)
   ·rw [if_neg c4] at H
    exact absurd H (by simp)

end Go.Proofs.Ytociaidhgefpiaa.P
