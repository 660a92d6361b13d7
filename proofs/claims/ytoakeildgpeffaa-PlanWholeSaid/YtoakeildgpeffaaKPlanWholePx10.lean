/- What functions of the program, and of its laws, give, each proved of its code by a walk; no condition. -/
import Derived.Test.YtoakeildgpeffaaKPlanWholePx0
namespace Go.Proofs.Ytoakeildgpeffaa.P
open Go.RowKit Go.Proofs.YtoakeildgpeffaaW.PrintWords Go.Proofs.YtoakeildgpeffaaW.PrintLast Go.Proofs.YtoakeildgpeffaaW.PrintMore
attribute [local go_sem] max2_int min2_int max_two min_two max_three min_three max_four min_four   -- for this text's walks alone
set_option linter.unusedVariables false
set_option linter.unusedSimpArgs false

def curtilageref14_Right.l0 : Nat → List Int → Int → Int → Option (Bool)
  | 0, _, _, _ => none
  | k + 1, x0, x1, x5 => if x5 < (x0.length : Int) then (if 0 ≤ x5 then (if (rd x0 x5) < 0 then (some false) else (if (rd x0 x5) ≥ x1 then (some false) else (curtilageref14_Right.l0 k x0 x1 (wrap64 (x5 + 1))))) else (none)) else (some (decide ((x0.length : Int) ≤ 40)))
def curtilageref14_Right.f (k : Nat) (l0 : List Int) (a1 : Int) : Option (Bool) := curtilageref14_Right.l0 k l0 a1 0
theorem curtilageref14_Right.mono_l : ∀ k, (∀ y0 y1 y2, LeO (curtilageref14_Right.l0 k y0 y1 y2) (curtilageref14_Right.l0 (k + 1) y0 y1 y2))
  | 0 => fun _ _ _ r h => by simp [curtilageref14_Right.l0] at h
  | k + 1 => by
    have ih0 := curtilageref14_Right.mono_l k
    · intro y0 y1 y2
      unfold curtilageref14_Right.l0
      repeat' first
      | (with_reducible exact ih0 _ _ _)
      | (with_reducible exact LeO.refl _)
      | (with_reducible exact LeO.none _)
      | (with_reducible refine LeO.ite ?_ ?_)
      | (with_reducible refine LeO.bind ?_ (fun _ => ?_))
      | exact ih0 _ _ _
      | exact LeO.none _
      | refine LeO.ite ?_ ?_
      | refine LeO.bind ?_ (fun _ => ?_)
theorem curtilageref14_Right.mono : ∀ a0 a1 k, LeO (curtilageref14_Right.f k a0 a1) (curtilageref14_Right.f (k + 1) a0 a1) := by
  intro a0 a1 k
  have ih0 := curtilageref14_Right.mono_l k
  unfold curtilageref14_Right.f
  repeat' first
      | (with_reducible exact ih0 _ _ _)
      | (with_reducible exact LeO.refl _)
      | (with_reducible exact LeO.none _)
      | (with_reducible refine LeO.ite ?_ ?_)
      | (with_reducible refine LeO.bind ?_ (fun _ => ?_))
      | exact ih0 _ _ _
      | exact LeO.none _
      | refine LeO.ite ?_ ?_
      | refine LeO.bind ?_ (fun _ => ?_)
set_option maxHeartbeats 8000000 in
set_option maxRecDepth 100000 in
theorem curtilageref14_Right.calls (k : Nat) (A0 : Option Addr) (c0 : Nat) (l0 : List Int) (a1 : Int) (r : Bool) (w : World) (hr0 : Kd.C (Kd.int .i64) w A0 l0.length l0) (hc0 : l0.length ≤ c0) (h : curtilageref14_Right.f k l0 a1 = some r) :
    Calls Try.prog 14 #[.slice A0 l0.length c0, .int .i64 a1] w fun e w' => e = .returned (.bool r) ∧ Drawn0 w w' := by
  have HR0 := Aside0.mk hr0
  have HC0 := Aside0.mk hc0
  clear hr0 hc0
  have H : (curtilageref14_Right.l0 k l0 a1 0) = some r := h
  clear h
  have H' := Aside0.mk H
  clear H
  go_enter Try.func14, Try.ntmps14
  go_wp2
  go_loopg [5] k (fun kq v5 w' => ∃ (x5_1 : Int), v5 = .int .i64 x5_1 ∧ Aside0 (curtilageref14_Right.l0 kq l0 a1 x5_1 = some r) ∧ Aside0 (kq ≤ k) ∧ Drawn0 w w')
  case atStart => exact ⟨(0), (by first | rfl | (simp; done) | (simp [*]; done)), H', ⟨Nat.le_refl _⟩, by repeat (first | exact Drawn0.refl _ | apply Drawn0.step)⟩
  case round =>
    clear H'
    try clear c1
    try clear p2
    obtain ⟨x5_1, rfl, HA, HK1, ⟨m1, rfl⟩⟩ := hrel
    cases gk with
    | zero => exact absurd HA.out (by simp [curtilageref14_Right.l0])
    | succ k1 =>
      have H := HA.out
      clear HA
      simp only [curtilageref14_Right.l0] at H
      by_cases c3 : x5_1 < (l0.length : Int)
      · rw [if_pos c3] at H
        have c3b0 : decide (x5_1 < (l0.length : Int)) = true := decide_eq_true c3
        clear c3
        by_cases c4 : 0 ≤ x5_1
        · rw [if_pos c4] at H
          have c4b0 : decide (0 ≤ x5_1) = true := decide_eq_true c4
          clear c4
          by_cases c5 : (rd l0 x5_1) < 0
          · rw [if_pos c5] at H
            have c5b0 : decide ((rd l0 x5_1) < 0) = true := decide_eq_true c5
            clear c5
            obtain rfl := Option.some.inj H
            have p151 : 0 ≤ (x5_1 : Int) := of_decide_eq_true (by first | (with_reducible assumption) | assumption)
            have q151 : x5_1 < (l0.length : Int) := of_decide_eq_true (by first | (with_reducible assumption) | assumption)
            obtain ⟨ad151, e151, hx151_0⟩ := Kd.at_int HR0.out x5_1 p151 q151
            cases e151
            replace p151 := eq_true p151
            replace q151 := eq_true q151
            go_wp2
            go_ret
            exact ⟨by first | rfl | (simp; done) | (simp [*]; done), by repeat (first | exact Drawn0.refl _ | apply Drawn0.step)⟩
          · rw [if_neg c5] at H
            have c5b0 : decide ((rd l0 x5_1) < 0) = false := decide_eq_false c5
            clear c5
            by_cases c6 : (rd l0 x5_1) ≥ a1
            · rw [if_pos c6] at H
              have c6b0 : decide (a1 ≤ (rd l0 x5_1)) = true := decide_eq_true c6
              clear c6
              obtain rfl := Option.some.inj H
              have p151 : 0 ≤ (x5_1 : Int) := of_decide_eq_true (by first | (with_reducible assumption) | assumption)
              have q151 : x5_1 < (l0.length : Int) := of_decide_eq_true (by first | (with_reducible assumption) | assumption)
              obtain ⟨ad151, e151, hx151_0⟩ := Kd.at_int HR0.out x5_1 p151 q151
              cases e151
              replace p151 := eq_true p151
              replace q151 := eq_true q151
              have p152 : 0 ≤ (x5_1 : Int) := of_decide_eq_true (by first | (with_reducible assumption) | assumption)
              have q152 : x5_1 < (l0.length : Int) := of_decide_eq_true (by first | (with_reducible assumption) | assumption)
              obtain ⟨ad152, e152, hx152_0⟩ := Kd.at_int HR0.out x5_1 p152 q152
              obtain rfl : ad151 = ad152 := (by injection e152)
              replace p152 := eq_true p152
              replace q152 := eq_true q152
              go_wp2
              go_ret
              exact ⟨by first | rfl | (simp; done) | (simp [*]; done), by repeat (first | exact Drawn0.refl _ | apply Drawn0.step)⟩
            · rw [if_neg c6] at H
              have c6b0 : decide (a1 ≤ (rd l0 x5_1)) = false := decide_eq_false c6
              clear c6
              have H' := Aside0.mk H
              clear H
              have p151 : 0 ≤ (x5_1 : Int) := of_decide_eq_true (by first | (with_reducible assumption) | assumption)
              have q151 : x5_1 < (l0.length : Int) := of_decide_eq_true (by first | (with_reducible assumption) | assumption)
              obtain ⟨ad151, e151, hx151_0⟩ := Kd.at_int HR0.out x5_1 p151 q151
              cases e151
              replace p151 := eq_true p151
              replace q151 := eq_true q151
              have p152 : 0 ≤ (x5_1 : Int) := of_decide_eq_true (by first | (with_reducible assumption) | assumption)
              have q152 : x5_1 < (l0.length : Int) := of_decide_eq_true (by first | (with_reducible assumption) | assumption)
              obtain ⟨ad152, e152, hx152_0⟩ := Kd.at_int HR0.out x5_1 p152 q152
              obtain rfl : ad151 = ad152 := (by injection e152)
              replace p152 := eq_true p152
              replace q152 := eq_true q152
              go_wp2
              go_roundg k1
              case measure => have := HK1.out; omega
              case rel => exact ⟨(wrap64 (x5_1 + 1)), (by first | rfl | (simp; done) | (simp [*]; done)), H', ⟨by have := HK1.out; omega⟩, by repeat (first | exact Drawn0.refl _ | apply Drawn0.step)⟩
        · rw [if_neg c4] at H
          exact absurd H (by simp)
      · rw [if_neg c3] at H
        have c3b0 : decide (x5_1 < (l0.length : Int)) = false := decide_eq_false c3
        clear c3
        obtain rfl := Option.some.inj H
        go_wp2
        go_ret
        exact ⟨by first | rfl | (simp; done) | (simp [*]; done), by repeat (first | exact Drawn0.refl _ | apply Drawn0.step)⟩

mutual
def curtilageref15_Right.l0 : Nat → List (S39) → Int → Option (Bool)
  | 0, _, _ => none
  | k + 1, x0, x3 => if x3 < (x0.length : Int) then (if 0 ≤ x3 then (if (((rd_T39 x0 x3).f4).length : Int) > 60 then (some false) else (curtilageref15_Right.l1 k x0 x3 0)) else (none)) else (some true)
def curtilageref15_Right.l1 : Nat → List (S39) → Int → Int → Option (Bool)
  | 0, _, _, _ => none
  | k + 1, x0, x3, x4 => if 0 ≤ x3 then (if x3 < (x0.length : Int) then (if x4 < (((rd_T39 x0 x3).f4).length : Int) then (if 0 ≤ x4 then (if ((rd_T44 ((rd_T39 x0 x3).f4) x4).f1) < 0 then (some false) else (if ((rd_T44 ((rd_T39 x0 x3).f4) x4).f1) ≥ (((rd_T39 x0 x3).f3).length : Int) then (some false) else (curtilageref15_Right.l1 k x0 x3 (wrap64 (x4 + 1))))) else (none)) else (curtilageref15_Right.l0 k x0 (wrap64 (x3 + 1)))) else (none)) else (none)
end
def curtilageref15_Right.f (k : Nat) (l0 : List (S39)) : Option (Bool) := curtilageref15_Right.l0 k l0 0
theorem curtilageref15_Right.mono_l : ∀ k, (∀ y0 y1, LeO (curtilageref15_Right.l0 k y0 y1) (curtilageref15_Right.l0 (k + 1) y0 y1)) ∧ (∀ y0 y1 y2, LeO (curtilageref15_Right.l1 k y0 y1 y2) (curtilageref15_Right.l1 (k + 1) y0 y1 y2))
  | 0 => ⟨fun _ _ r h => by simp [curtilageref15_Right.l0] at h, fun _ _ _ r h => by simp [curtilageref15_Right.l1] at h⟩
  | k + 1 => by
    obtain ⟨ih0, ih1⟩ := curtilageref15_Right.mono_l k
    refine ⟨?_, ?_⟩
    · intro y0 y1
      unfold curtilageref15_Right.l0
      repeat' first
      | (with_reducible exact ih0 _ _)
      | (with_reducible exact ih1 _ _ _)
      | (with_reducible exact LeO.refl _)
      | (with_reducible exact LeO.none _)
      | (with_reducible refine LeO.ite ?_ ?_)
      | (with_reducible refine LeO.bind ?_ (fun _ => ?_))
      | exact ih0 _ _
      | exact ih1 _ _ _
      | exact LeO.none _
      | refine LeO.ite ?_ ?_
      | refine LeO.bind ?_ (fun _ => ?_)
    · intro y0 y1 y2
      unfold curtilageref15_Right.l1
      repeat' first
      | (with_reducible exact ih0 _ _)
      | (with_reducible exact ih1 _ _ _)
      | (with_reducible exact LeO.refl _)
      | (with_reducible exact LeO.none _)
      | (with_reducible refine LeO.ite ?_ ?_)
      | (with_reducible refine LeO.bind ?_ (fun _ => ?_))
      | exact ih0 _ _
      | exact ih1 _ _ _
      | exact LeO.none _
      | refine LeO.ite ?_ ?_
      | refine LeO.bind ?_ (fun _ => ?_)
theorem curtilageref15_Right.mono : ∀ a0 k, LeO (curtilageref15_Right.f k a0) (curtilageref15_Right.f (k + 1) a0) := by
  intro a0 k
  obtain ⟨ih0, ih1⟩ := curtilageref15_Right.mono_l k
  unfold curtilageref15_Right.f
  repeat' first
      | (with_reducible exact ih0 _ _)
      | (with_reducible exact ih1 _ _ _)
      | (with_reducible exact LeO.refl _)
      | (with_reducible exact LeO.none _)
      | (with_reducible refine LeO.ite ?_ ?_)
      | (with_reducible refine LeO.bind ?_ (fun _ => ?_))
      | exact ih0 _ _
      | exact ih1 _ _ _
      | exact LeO.none _
      | refine LeO.ite ?_ ?_
      | refine LeO.bind ?_ (fun _ => ?_)
set_option maxHeartbeats 8000000 in
set_option maxRecDepth 100000 in
theorem curtilageref15_Right.calls (k : Nat) (A0 : Option Addr) (c0 : Nat) (l0 : List (S39)) (r : Bool) (w : World) (hr0 : Kd.C k39 w A0 l0.length l0) (hc0 : l0.length ≤ c0) (h : curtilageref15_Right.f k l0 = some r) :
    Calls Try.prog 15 #[.slice A0 l0.length c0] w fun e w' => e = .returned (.bool r) ∧ Drawn0 w w' := by
  have HR0 := Aside0.mk hr0
  have HC0 := Aside0.mk hc0
  clear hr0 hc0
  have H : (curtilageref15_Right.l0 k l0 0) = some r := h
  clear h
  have H' := Aside0.mk H
  clear H
  go_enter Try.func15, Try.ntmps15
  go_wp2
  go_loopg [3] k (fun kq v3 w' => ∃ (x3_1 : Int), v3 = .int .i64 x3_1 ∧ Aside0 (curtilageref15_Right.l0 kq l0 x3_1 = some r) ∧ Aside0 (kq ≤ k) ∧ Drawn0 w w')
  case atStart => exact ⟨(0), (by first | rfl | (simp; done) | (simp [*]; done)), H', ⟨Nat.le_refl _⟩, by repeat (first | exact Drawn0.refl _ | apply Drawn0.step)⟩
  case round =>
    clear H'
    try clear c1
    obtain ⟨x3_1, rfl, HA, HK1, ⟨m1, rfl⟩⟩ := hrel
    cases gk with
    | zero => exact absurd HA.out (by simp [curtilageref15_Right.l0])
    | succ k1 =>
      have H := HA.out
      clear HA
      simp only [curtilageref15_Right.l0] at H
      by_cases c2 : x3_1 < (l0.length : Int)
      · rw [if_pos c2] at H
        have c2b0 : decide (x3_1 < (l0.length : Int)) = true := decide_eq_true c2
        clear c2
        by_cases c3 : 0 ≤ x3_1
        · rw [if_pos c3] at H
          have c3b0 : decide (0 ≤ x3_1) = true := decide_eq_true c3
          clear c3
          by_cases c4 : (((rd_T39 l0 x3_1).f4).length : Int) > 60
          · rw [if_pos c4] at H
            have c4b0 : decide (60 < (((rd_T39 l0 x3_1).f4).length : Int)) = true := decide_eq_true c4
            have c4b1 : decide (60 < ((rd_T39 l0 x3_1).f4).length) = true := decide_eq_true (by omega)
            clear c4
            obtain rfl := Option.some.inj H
            have p153 : 0 ≤ (x3_1 : Int) := of_decide_eq_true (by first | (with_reducible assumption) | assumption)
            have q153 : x3_1 < (l0.length : Int) := of_decide_eq_true (by first | (with_reducible assumption) | assumption)
            obtain ⟨ad153, A153_1, c153_1, A153_2, c153_2, A153_3, c153_3, A153_4, c153_4, A153_5, c153_5, A153_6, c153_6, e153, hx153_0, hx153_1, hx153_2, hx153_3, hx153_4, hx153_5, hx153_6, hl153_1, hi153_1, hl153_2, hi153_2, hl153_3, hi153_3, hl153_4, hi153_4, hl153_5, hi153_5, hl153_6, hi153_6⟩ := at_T39 HR0.out x3_1 p153 q153
            cases e153
            have HR153_1 := Aside0.mk hi153_1
            have HC153_1 := Aside0.mk hl153_1
            clear hi153_1 hl153_1
            have HR153_2 := Aside0.mk hi153_2
            have HC153_2 := Aside0.mk hl153_2
            clear hi153_2 hl153_2
            have HR153_3 := Aside0.mk hi153_3
            have HC153_3 := Aside0.mk hl153_3
            clear hi153_3 hl153_3
            have HR153_4 := Aside0.mk hi153_4
            have HC153_4 := Aside0.mk hl153_4
            clear hi153_4 hl153_4
            have HR153_5 := Aside0.mk hi153_5
            have HC153_5 := Aside0.mk hl153_5
            clear hi153_5 hl153_5
            have HR153_6 := Aside0.mk hi153_6
            have HC153_6 := Aside0.mk hl153_6
            clear hi153_6 hl153_6
            replace p153 := eq_true p153
            replace q153 := eq_true q153
            go_wp2
            go_ret
            exact ⟨by first | rfl | (simp; done) | (simp [*]; done), by repeat (first | exact Drawn0.refl _ | apply Drawn0.step)⟩
          · rw [if_neg c4] at H
            have c4b0 : decide (60 < (((rd_T39 l0 x3_1).f4).length : Int)) = false := decide_eq_false c4
            have c4b1 : decide (60 < ((rd_T39 l0 x3_1).f4).length) = false := decide_eq_false (by omega)
            clear c4
            have H' := Aside0.mk H
            clear H
            have p153 : 0 ≤ (x3_1 : Int) := of_decide_eq_true (by first | (with_reducible assumption) | assumption)
            have q153 : x3_1 < (l0.length : Int) := of_decide_eq_true (by first | (with_reducible assumption) | assumption)
            obtain ⟨ad153, A153_1, c153_1, A153_2, c153_2, A153_3, c153_3, A153_4, c153_4, A153_5, c153_5, A153_6, c153_6, e153, hx153_0, hx153_1, hx153_2, hx153_3, hx153_4, hx153_5, hx153_6, hl153_1, hi153_1, hl153_2, hi153_2, hl153_3, hi153_3, hl153_4, hi153_4, hl153_5, hi153_5, hl153_6, hi153_6⟩ := at_T39 HR0.out x3_1 p153 q153
            cases e153
            have HR153_1 := Aside0.mk hi153_1
            have HC153_1 := Aside0.mk hl153_1
            clear hi153_1 hl153_1
            have HR153_2 := Aside0.mk hi153_2
            have HC153_2 := Aside0.mk hl153_2
            clear hi153_2 hl153_2
            have HR153_3 := Aside0.mk hi153_3
            have HC153_3 := Aside0.mk hl153_3
            clear hi153_3 hl153_3
            have HR153_4 := Aside0.mk hi153_4
            have HC153_4 := Aside0.mk hl153_4
            clear hi153_4 hl153_4
            have HR153_5 := Aside0.mk hi153_5
            have HC153_5 := Aside0.mk hl153_5
            clear hi153_5 hl153_5
            have HR153_6 := Aside0.mk hi153_6
            have HC153_6 := Aside0.mk hl153_6
            clear hi153_6 hl153_6
            replace p153 := eq_true p153
            replace q153 := eq_true q153
            go_wp2
            go_loopg [4] k1 (fun kq v4 w' => ∃ (x4_2 : Int), v4 = .int .i64 x4_2 ∧ Aside0 (curtilageref15_Right.l1 kq l0 x3_1 x4_2 = some r) ∧ Aside0 (kq ≤ k1) ∧ Drawn0 w w')
            case atStart => exact ⟨(0), (by first | rfl | (simp; done) | (simp [*]; done)), H', ⟨Nat.le_refl _⟩, by repeat (first | exact Drawn0.refl _ | apply Drawn0.step)⟩
            case round =>
              clear H'
              try clear c1
              try clear p1
              try clear q1
              try clear hx1
              try clear c2
              try clear c2b0
              try clear p2
              try clear c3
              try clear c3b0
              try clear c4
              try clear c4b0
              try clear c4b1
              try clear hx153_0
              try clear hx153_1
              try clear hx153_2
              try clear hx153_3
              try clear hx153_4
              try clear hx153_5
              try clear hx153_6
              try clear p153
              try clear q153
              obtain ⟨x4_2, rfl, HA, HK2, ⟨m2, rfl⟩⟩ := hrel
              cases gk with
              | zero => exact absurd HA.out (by simp [curtilageref15_Right.l1])
              | succ k2 =>
                have H := HA.out
                clear HA
                simp only [curtilageref15_Right.l1] at H
                by_cases c5 : 0 ≤ x3_1
                · rw [if_pos c5] at H
                  have c5b0 : decide (0 ≤ x3_1) = true := decide_eq_true c5
                  clear c5
                  by_cases c6 : x3_1 < (l0.length : Int)
                  · rw [if_pos c6] at H
                    have c6b0 : decide (x3_1 < (l0.length : Int)) = true := decide_eq_true c6
                    clear c6
                    by_cases c7 : x4_2 < (((rd_T39 l0 x3_1).f4).length : Int)
                    · rw [if_pos c7] at H
                      have c7b0 : decide (x4_2 < (((rd_T39 l0 x3_1).f4).length : Int)) = true := decide_eq_true c7
                      clear c7
                      by_cases c8 : 0 ≤ x4_2
                      · rw [if_pos c8] at H
                        have c8b0 : decide (0 ≤ x4_2) = true := decide_eq_true c8
                        clear c8
                        by_cases c9 : ((rd_T44 ((rd_T39 l0 x3_1).f4) x4_2).f1) < 0
                        · rw [if_pos c9] at H
                          have c9b0 : decide (((rd_T44 ((rd_T39 l0 x3_1).f4) x4_2).f1) < 0) = true := decide_eq_true c9
                          clear c9
                          obtain rfl := Option.some.inj H
                          have p154 : 0 ≤ (x3_1 : Int) := of_decide_eq_true (by first | (with_reducible assumption) | assumption)
                          have q154 : x3_1 < (l0.length : Int) := of_decide_eq_true (by first | (with_reducible assumption) | assumption)
                          obtain ⟨ad154, A154_1, c154_1, A154_2, c154_2, A154_3, c154_3, A154_4, c154_4, A154_5, c154_5, A154_6, c154_6, e154, hx154_0, hx154_1, hx154_2, hx154_3, hx154_4, hx154_5, hx154_6, hl154_1, hi154_1, hl154_2, hi154_2, hl154_3, hi154_3, hl154_4, hi154_4, hl154_5, hi154_5, hl154_6, hi154_6⟩ := at_T39 HR0.out x3_1 p154 q154
                          obtain rfl : ad153 = ad154 := (by injection e154)
                          have HR154_1 := Aside0.mk hi154_1
                          have HC154_1 := Aside0.mk hl154_1
                          clear hi154_1 hl154_1
                          have HR154_2 := Aside0.mk hi154_2
                          have HC154_2 := Aside0.mk hl154_2
                          clear hi154_2 hl154_2
                          have HR154_3 := Aside0.mk hi154_3
                          have HC154_3 := Aside0.mk hl154_3
                          clear hi154_3 hl154_3
                          have HR154_4 := Aside0.mk hi154_4
                          have HC154_4 := Aside0.mk hl154_4
                          clear hi154_4 hl154_4
                          have HR154_5 := Aside0.mk hi154_5
                          have HC154_5 := Aside0.mk hl154_5
                          clear hi154_5 hl154_5
                          have HR154_6 := Aside0.mk hi154_6
                          have HC154_6 := Aside0.mk hl154_6
                          clear hi154_6 hl154_6
                          replace p154 := eq_true p154
                          replace q154 := eq_true q154
                          have p155 : 0 ≤ (x3_1 : Int) := of_decide_eq_true (by first | (with_reducible assumption) | assumption)
                          have q155 : x3_1 < (l0.length : Int) := of_decide_eq_true (by first | (with_reducible assumption) | assumption)
                          obtain ⟨ad155, A155_1, c155_1, A155_2, c155_2, A155_3, c155_3, A155_4, c155_4, A155_5, c155_5, A155_6, c155_6, e155, hx155_0, hx155_1, hx155_2, hx155_3, hx155_4, hx155_5, hx155_6, hl155_1, hi155_1, hl155_2, hi155_2, hl155_3, hi155_3, hl155_4, hi155_4, hl155_5, hi155_5, hl155_6, hi155_6⟩ := at_T39 HR0.out x3_1 p155 q155
                          obtain rfl : ad153 = ad155 := (by injection e155)
                          have HR155_1 := Aside0.mk hi155_1
                          have HC155_1 := Aside0.mk hl155_1
                          clear hi155_1 hl155_1
                          have HR155_2 := Aside0.mk hi155_2
                          have HC155_2 := Aside0.mk hl155_2
                          clear hi155_2 hl155_2
                          have HR155_3 := Aside0.mk hi155_3
                          have HC155_3 := Aside0.mk hl155_3
                          clear hi155_3 hl155_3
                          have HR155_4 := Aside0.mk hi155_4
                          have HC155_4 := Aside0.mk hl155_4
                          clear hi155_4 hl155_4
                          have HR155_5 := Aside0.mk hi155_5
                          have HC155_5 := Aside0.mk hl155_5
                          clear hi155_5 hl155_5
                          have HR155_6 := Aside0.mk hi155_6
                          have HC155_6 := Aside0.mk hl155_6
                          clear hi155_6 hl155_6
                          replace p155 := eq_true p155
                          replace q155 := eq_true q155
                          have ea_ := Option.some.inj (hx154_1.symm.trans hx155_1)
                          injection ea_ with ea_ en_ ec_
                          subst ea_
                          subst ec_
                          clear en_
                          have ea_ := Option.some.inj (hx154_2.symm.trans hx155_2)
                          injection ea_ with ea_ en_ ec_
                          subst ea_
                          subst ec_
                          clear en_
                          have ea_ := Option.some.inj (hx154_3.symm.trans hx155_3)
                          injection ea_ with ea_ en_ ec_
                          subst ea_
                          subst ec_
                          clear en_
                          have ea_ := Option.some.inj (hx154_4.symm.trans hx155_4)
                          injection ea_ with ea_ en_ ec_
                          subst ea_
                          subst ec_
                          clear en_
                          have ea_ := Option.some.inj (hx154_5.symm.trans hx155_5)
                          injection ea_ with ea_ en_ ec_
                          subst ea_
                          subst ec_
                          clear en_
                          have ea_ := Option.some.inj (hx154_6.symm.trans hx155_6)
                          injection ea_ with ea_ en_ ec_
                          subst ea_
                          subst ec_
                          clear en_
                          have p156 : 0 ≤ (x4_2 : Int) := of_decide_eq_true (by first | (with_reducible assumption) | assumption)
                          have q156 : x4_2 < (((rd_T39 l0 x3_1).f4).length : Int) := of_decide_eq_true (by first | (with_reducible assumption) | assumption)
                          obtain ⟨ad156, e156, hx156_0, hx156_1⟩ := at_T44 HR155_4.out x4_2 p156 q156
                          cases e156
                          replace p156 := eq_true p156
                          replace q156 := eq_true q156
                          go_wp2
                          go_ret
                          exact ⟨by first | rfl | (simp; done) | (simp [*]; done), by repeat (first | exact Drawn0.refl _ | apply Drawn0.step)⟩
                        · rw [if_neg c9] at H
                          have c9b0 : decide (((rd_T44 ((rd_T39 l0 x3_1).f4) x4_2).f1) < 0) = false := decide_eq_false c9
                          clear c9
                          by_cases c10 : ((rd_T44 ((rd_T39 l0 x3_1).f4) x4_2).f1) ≥ (((rd_T39 l0 x3_1).f3).length : Int)
                          · rw [if_pos c10] at H
                            have c10b0 : decide ((((rd_T39 l0 x3_1).f3).length : Int) ≤ ((rd_T44 ((rd_T39 l0 x3_1).f4) x4_2).f1)) = true := decide_eq_true c10
                            clear c10
                            obtain rfl := Option.some.inj H
                            have p154 : 0 ≤ (x3_1 : Int) := of_decide_eq_true (by first | (with_reducible assumption) | assumption)
                            have q154 : x3_1 < (l0.length : Int) := of_decide_eq_true (by first | (with_reducible assumption) | assumption)
                            obtain ⟨ad154, A154_1, c154_1, A154_2, c154_2, A154_3, c154_3, A154_4, c154_4, A154_5, c154_5, A154_6, c154_6, e154, hx154_0, hx154_1, hx154_2, hx154_3, hx154_4, hx154_5, hx154_6, hl154_1, hi154_1, hl154_2, hi154_2, hl154_3, hi154_3, hl154_4, hi154_4, hl154_5, hi154_5, hl154_6, hi154_6⟩ := at_T39 HR0.out x3_1 p154 q154
                            obtain rfl : ad153 = ad154 := (by injection e154)
                            have HR154_1 := Aside0.mk hi154_1
                            have HC154_1 := Aside0.mk hl154_1
                            clear hi154_1 hl154_1
                            have HR154_2 := Aside0.mk hi154_2
                            have HC154_2 := Aside0.mk hl154_2
                            clear hi154_2 hl154_2
                            have HR154_3 := Aside0.mk hi154_3
                            have HC154_3 := Aside0.mk hl154_3
                            clear hi154_3 hl154_3
                            have HR154_4 := Aside0.mk hi154_4
                            have HC154_4 := Aside0.mk hl154_4
                            clear hi154_4 hl154_4
                            have HR154_5 := Aside0.mk hi154_5
                            have HC154_5 := Aside0.mk hl154_5
                            clear hi154_5 hl154_5
                            have HR154_6 := Aside0.mk hi154_6
                            have HC154_6 := Aside0.mk hl154_6
                            clear hi154_6 hl154_6
                            replace p154 := eq_true p154
                            replace q154 := eq_true q154
                            have p155 : 0 ≤ (x3_1 : Int) := of_decide_eq_true (by first | (with_reducible assumption) | assumption)
                            have q155 : x3_1 < (l0.length : Int) := of_decide_eq_true (by first | (with_reducible assumption) | assumption)
                            obtain ⟨ad155, A155_1, c155_1, A155_2, c155_2, A155_3, c155_3, A155_4, c155_4, A155_5, c155_5, A155_6, c155_6, e155, hx155_0, hx155_1, hx155_2, hx155_3, hx155_4, hx155_5, hx155_6, hl155_1, hi155_1, hl155_2, hi155_2, hl155_3, hi155_3, hl155_4, hi155_4, hl155_5, hi155_5, hl155_6, hi155_6⟩ := at_T39 HR0.out x3_1 p155 q155
                            obtain rfl : ad153 = ad155 := (by injection e155)
                            have HR155_1 := Aside0.mk hi155_1
                            have HC155_1 := Aside0.mk hl155_1
                            clear hi155_1 hl155_1
                            have HR155_2 := Aside0.mk hi155_2
                            have HC155_2 := Aside0.mk hl155_2
                            clear hi155_2 hl155_2
                            have HR155_3 := Aside0.mk hi155_3
                            have HC155_3 := Aside0.mk hl155_3
                            clear hi155_3 hl155_3
                            have HR155_4 := Aside0.mk hi155_4
                            have HC155_4 := Aside0.mk hl155_4
                            clear hi155_4 hl155_4
                            have HR155_5 := Aside0.mk hi155_5
                            have HC155_5 := Aside0.mk hl155_5
                            clear hi155_5 hl155_5
                            have HR155_6 := Aside0.mk hi155_6
                            have HC155_6 := Aside0.mk hl155_6
                            clear hi155_6 hl155_6
                            replace p155 := eq_true p155
                            replace q155 := eq_true q155
                            have ea_ := Option.some.inj (hx154_1.symm.trans hx155_1)
                            injection ea_ with ea_ en_ ec_
                            subst ea_
                            subst ec_
                            clear en_
                            have ea_ := Option.some.inj (hx154_2.symm.trans hx155_2)
                            injection ea_ with ea_ en_ ec_
                            subst ea_
                            subst ec_
                            clear en_
                            have ea_ := Option.some.inj (hx154_3.symm.trans hx155_3)
                            injection ea_ with ea_ en_ ec_
                            subst ea_
                            subst ec_
                            clear en_
                            have ea_ := Option.some.inj (hx154_4.symm.trans hx155_4)
                            injection ea_ with ea_ en_ ec_
                            subst ea_
                            subst ec_
                            clear en_
                            have ea_ := Option.some.inj (hx154_5.symm.trans hx155_5)
                            injection ea_ with ea_ en_ ec_
                            subst ea_
                            subst ec_
                            clear en_
                            have ea_ := Option.some.inj (hx154_6.symm.trans hx155_6)
                            injection ea_ with ea_ en_ ec_
                            subst ea_
                            subst ec_
                            clear en_
                            have p156 : 0 ≤ (x4_2 : Int) := of_decide_eq_true (by first | (with_reducible assumption) | assumption)
                            have q156 : x4_2 < (((rd_T39 l0 x3_1).f4).length : Int) := of_decide_eq_true (by first | (with_reducible assumption) | assumption)
                            obtain ⟨ad156, e156, hx156_0, hx156_1⟩ := at_T44 HR155_4.out x4_2 p156 q156
                            cases e156
                            replace p156 := eq_true p156
                            replace q156 := eq_true q156
                            have p157 : 0 ≤ (x3_1 : Int) := of_decide_eq_true (by first | (with_reducible assumption) | assumption)
                            have q157 : x3_1 < (l0.length : Int) := of_decide_eq_true (by first | (with_reducible assumption) | assumption)
                            obtain ⟨ad157, A157_1, c157_1, A157_2, c157_2, A157_3, c157_3, A157_4, c157_4, A157_5, c157_5, A157_6, c157_6, e157, hx157_0, hx157_1, hx157_2, hx157_3, hx157_4, hx157_5, hx157_6, hl157_1, hi157_1, hl157_2, hi157_2, hl157_3, hi157_3, hl157_4, hi157_4, hl157_5, hi157_5, hl157_6, hi157_6⟩ := at_T39 HR0.out x3_1 p157 q157
                            obtain rfl : ad153 = ad157 := (by injection e157)
                            have HR157_1 := Aside0.mk hi157_1
                            have HC157_1 := Aside0.mk hl157_1
                            clear hi157_1 hl157_1
                            have HR157_2 := Aside0.mk hi157_2
                            have HC157_2 := Aside0.mk hl157_2
                            clear hi157_2 hl157_2
                            have HR157_3 := Aside0.mk hi157_3
                            have HC157_3 := Aside0.mk hl157_3
                            clear hi157_3 hl157_3
                            have HR157_4 := Aside0.mk hi157_4
                            have HC157_4 := Aside0.mk hl157_4
                            clear hi157_4 hl157_4
                            have HR157_5 := Aside0.mk hi157_5
                            have HC157_5 := Aside0.mk hl157_5
                            clear hi157_5 hl157_5
                            have HR157_6 := Aside0.mk hi157_6
                            have HC157_6 := Aside0.mk hl157_6
                            clear hi157_6 hl157_6
                            replace p157 := eq_true p157
                            replace q157 := eq_true q157
                            have ea_ := Option.some.inj (hx154_1.symm.trans hx157_1)
                            injection ea_ with ea_ en_ ec_
                            subst ea_
                            subst ec_
                            clear en_
                            have ea_ := Option.some.inj (hx154_2.symm.trans hx157_2)
                            injection ea_ with ea_ en_ ec_
                            subst ea_
                            subst ec_
                            clear en_
                            have ea_ := Option.some.inj (hx154_3.symm.trans hx157_3)
                            injection ea_ with ea_ en_ ec_
                            subst ea_
                            subst ec_
                            clear en_
                            have ea_ := Option.some.inj (hx154_4.symm.trans hx157_4)
                            injection ea_ with ea_ en_ ec_
                            subst ea_
                            subst ec_
                            clear en_
                            have ea_ := Option.some.inj (hx154_5.symm.trans hx157_5)
                            injection ea_ with ea_ en_ ec_
                            subst ea_
                            subst ec_
                            clear en_
                            have ea_ := Option.some.inj (hx154_6.symm.trans hx157_6)
                            injection ea_ with ea_ en_ ec_
                            subst ea_
                            subst ec_
                            clear en_
                            go_wp2
                            go_ret
                            exact ⟨by first | rfl | (simp; done) | (simp [*]; done), by repeat (first | exact Drawn0.refl _ | apply Drawn0.step)⟩
                          · rw [if_neg c10] at H
                            have c10b0 : decide ((((rd_T39 l0 x3_1).f3).length : Int) ≤ ((rd_T44 ((rd_T39 l0 x3_1).f4) x4_2).f1)) = false := decide_eq_false c10
                            clear c10
                            have H' := Aside0.mk H
                            clear H
                            have p154 : 0 ≤ (x3_1 : Int) := of_decide_eq_true (by first | (with_reducible assumption) | assumption)
                            have q154 : x3_1 < (l0.length : Int) := of_decide_eq_true (by first | (with_reducible assumption) | assumption)
                            obtain ⟨ad154, A154_1, c154_1, A154_2, c154_2, A154_3, c154_3, A154_4, c154_4, A154_5, c154_5, A154_6, c154_6, e154, hx154_0, hx154_1, hx154_2, hx154_3, hx154_4, hx154_5, hx154_6, hl154_1, hi154_1, hl154_2, hi154_2, hl154_3, hi154_3, hl154_4, hi154_4, hl154_5, hi154_5, hl154_6, hi154_6⟩ := at_T39 HR0.out x3_1 p154 q154
                            obtain rfl : ad153 = ad154 := (by injection e154)
                            have HR154_1 := Aside0.mk hi154_1
                            have HC154_1 := Aside0.mk hl154_1
                            clear hi154_1 hl154_1
                            have HR154_2 := Aside0.mk hi154_2
                            have HC154_2 := Aside0.mk hl154_2
                            clear hi154_2 hl154_2
                            have HR154_3 := Aside0.mk hi154_3
                            have HC154_3 := Aside0.mk hl154_3
                            clear hi154_3 hl154_3
                            have HR154_4 := Aside0.mk hi154_4
                            have HC154_4 := Aside0.mk hl154_4
                            clear hi154_4 hl154_4
                            have HR154_5 := Aside0.mk hi154_5
                            have HC154_5 := Aside0.mk hl154_5
                            clear hi154_5 hl154_5
                            have HR154_6 := Aside0.mk hi154_6
                            have HC154_6 := Aside0.mk hl154_6
                            clear hi154_6 hl154_6
                            replace p154 := eq_true p154
                            replace q154 := eq_true q154
                            have p155 : 0 ≤ (x3_1 : Int) := of_decide_eq_true (by first | (with_reducible assumption) | assumption)
                            have q155 : x3_1 < (l0.length : Int) := of_decide_eq_true (by first | (with_reducible assumption) | assumption)
                            obtain ⟨ad155, A155_1, c155_1, A155_2, c155_2, A155_3, c155_3, A155_4, c155_4, A155_5, c155_5, A155_6, c155_6, e155, hx155_0, hx155_1, hx155_2, hx155_3, hx155_4, hx155_5, hx155_6, hl155_1, hi155_1, hl155_2, hi155_2, hl155_3, hi155_3, hl155_4, hi155_4, hl155_5, hi155_5, hl155_6, hi155_6⟩ := at_T39 HR0.out x3_1 p155 q155
                            obtain rfl : ad153 = ad155 := (by injection e155)
                            have HR155_1 := Aside0.mk hi155_1
                            have HC155_1 := Aside0.mk hl155_1
                            clear hi155_1 hl155_1
                            have HR155_2 := Aside0.mk hi155_2
                            have HC155_2 := Aside0.mk hl155_2
                            clear hi155_2 hl155_2
                            have HR155_3 := Aside0.mk hi155_3
                            have HC155_3 := Aside0.mk hl155_3
                            clear hi155_3 hl155_3
                            have HR155_4 := Aside0.mk hi155_4
                            have HC155_4 := Aside0.mk hl155_4
                            clear hi155_4 hl155_4
                            have HR155_5 := Aside0.mk hi155_5
                            have HC155_5 := Aside0.mk hl155_5
                            clear hi155_5 hl155_5
                            have HR155_6 := Aside0.mk hi155_6
                            have HC155_6 := Aside0.mk hl155_6
                            clear hi155_6 hl155_6
                            replace p155 := eq_true p155
                            replace q155 := eq_true q155
                            have ea_ := Option.some.inj (hx154_1.symm.trans hx155_1)
                            injection ea_ with ea_ en_ ec_
                            subst ea_
                            subst ec_
                            clear en_
                            have ea_ := Option.some.inj (hx154_2.symm.trans hx155_2)
                            injection ea_ with ea_ en_ ec_
                            subst ea_
                            subst ec_
                            clear en_
                            have ea_ := Option.some.inj (hx154_3.symm.trans hx155_3)
                            injection ea_ with ea_ en_ ec_
                            subst ea_
                            subst ec_
                            clear en_
                            have ea_ := Option.some.inj (hx154_4.symm.trans hx155_4)
                            injection ea_ with ea_ en_ ec_
                            subst ea_
                            subst ec_
                            clear en_
                            have ea_ := Option.some.inj (hx154_5.symm.trans hx155_5)
                            injection ea_ with ea_ en_ ec_
                            subst ea_
                            subst ec_
                            clear en_
                            have ea_ := Option.some.inj (hx154_6.symm.trans hx155_6)
                            injection ea_ with ea_ en_ ec_
                            subst ea_
                            subst ec_
                            clear en_
                            have p156 : 0 ≤ (x4_2 : Int) := of_decide_eq_true (by first | (with_reducible assumption) | assumption)
                            have q156 : x4_2 < (((rd_T39 l0 x3_1).f4).length : Int) := of_decide_eq_true (by first | (with_reducible assumption) | assumption)
                            obtain ⟨ad156, e156, hx156_0, hx156_1⟩ := at_T44 HR155_4.out x4_2 p156 q156
                            cases e156
                            replace p156 := eq_true p156
                            replace q156 := eq_true q156
                            have p157 : 0 ≤ (x3_1 : Int) := of_decide_eq_true (by first | (with_reducible assumption) | assumption)
                            have q157 : x3_1 < (l0.length : Int) := of_decide_eq_true (by first | (with_reducible assumption) | assumption)
                            obtain ⟨ad157, A157_1, c157_1, A157_2, c157_2, A157_3, c157_3, A157_4, c157_4, A157_5, c157_5, A157_6, c157_6, e157, hx157_0, hx157_1, hx157_2, hx157_3, hx157_4, hx157_5, hx157_6, hl157_1, hi157_1, hl157_2, hi157_2, hl157_3, hi157_3, hl157_4, hi157_4, hl157_5, hi157_5, hl157_6, hi157_6⟩ := at_T39 HR0.out x3_1 p157 q157
                            obtain rfl : ad153 = ad157 := (by injection e157)
                            have HR157_1 := Aside0.mk hi157_1
                            have HC157_1 := Aside0.mk hl157_1
                            clear hi157_1 hl157_1
                            have HR157_2 := Aside0.mk hi157_2
                            have HC157_2 := Aside0.mk hl157_2
                            clear hi157_2 hl157_2
                            have HR157_3 := Aside0.mk hi157_3
                            have HC157_3 := Aside0.mk hl157_3
                            clear hi157_3 hl157_3
                            have HR157_4 := Aside0.mk hi157_4
                            have HC157_4 := Aside0.mk hl157_4
                            clear hi157_4 hl157_4
                            have HR157_5 := Aside0.mk hi157_5
                            have HC157_5 := Aside0.mk hl157_5
                            clear hi157_5 hl157_5
                            have HR157_6 := Aside0.mk hi157_6
                            have HC157_6 := Aside0.mk hl157_6
                            clear hi157_6 hl157_6
                            replace p157 := eq_true p157
                            replace q157 := eq_true q157
                            have ea_ := Option.some.inj (hx154_1.symm.trans hx157_1)
                            injection ea_ with ea_ en_ ec_
                            subst ea_
                            subst ec_
                            clear en_
                            have ea_ := Option.some.inj (hx154_2.symm.trans hx157_2)
                            injection ea_ with ea_ en_ ec_
                            subst ea_
                            subst ec_
                            clear en_
                            have ea_ := Option.some.inj (hx154_3.symm.trans hx157_3)
                            injection ea_ with ea_ en_ ec_
                            subst ea_
                            subst ec_
                            clear en_
                            have ea_ := Option.some.inj (hx154_4.symm.trans hx157_4)
                            injection ea_ with ea_ en_ ec_
                            subst ea_
                            subst ec_
                            clear en_
                            have ea_ := Option.some.inj (hx154_5.symm.trans hx157_5)
                            injection ea_ with ea_ en_ ec_
                            subst ea_
                            subst ec_
                            clear en_
                            have ea_ := Option.some.inj (hx154_6.symm.trans hx157_6)
                            injection ea_ with ea_ en_ ec_
                            subst ea_
                            subst ec_
                            clear en_
                            go_wp2
                            go_roundg k2
                            case measure => have := HK1.out; have := HK2.out; omega
                            case rel => exact ⟨(wrap64 (x4_2 + 1)), (by first | rfl | (simp; done) | (simp [*]; done)), H', ⟨by have := HK1.out; have := HK2.out; omega⟩, by repeat (first | exact Drawn0.refl _ | apply Drawn0.step)⟩
                      · rw [if_neg c8] at H
                        exact absurd H (by simp)
                    · rw [if_neg c7] at H
                      have c7b0 : decide (x4_2 < (((rd_T39 l0 x3_1).f4).length : Int)) = false := decide_eq_false c7
                      clear c7
                      have H' := Aside0.mk H
                      clear H
                      have p154 : 0 ≤ (x3_1 : Int) := of_decide_eq_true (by first | (with_reducible assumption) | assumption)
                      have q154 : x3_1 < (l0.length : Int) := of_decide_eq_true (by first | (with_reducible assumption) | assumption)
                      obtain ⟨ad154, A154_1, c154_1, A154_2, c154_2, A154_3, c154_3, A154_4, c154_4, A154_5, c154_5, A154_6, c154_6, e154, hx154_0, hx154_1, hx154_2, hx154_3, hx154_4, hx154_5, hx154_6, hl154_1, hi154_1, hl154_2, hi154_2, hl154_3, hi154_3, hl154_4, hi154_4, hl154_5, hi154_5, hl154_6, hi154_6⟩ := at_T39 HR0.out x3_1 p154 q154
                      obtain rfl : ad153 = ad154 := (by injection e154)
                      have HR154_1 := Aside0.mk hi154_1
                      have HC154_1 := Aside0.mk hl154_1
                      clear hi154_1 hl154_1
                      have HR154_2 := Aside0.mk hi154_2
                      have HC154_2 := Aside0.mk hl154_2
                      clear hi154_2 hl154_2
                      have HR154_3 := Aside0.mk hi154_3
                      have HC154_3 := Aside0.mk hl154_3
                      clear hi154_3 hl154_3
                      have HR154_4 := Aside0.mk hi154_4
                      have HC154_4 := Aside0.mk hl154_4
                      clear hi154_4 hl154_4
                      have HR154_5 := Aside0.mk hi154_5
                      have HC154_5 := Aside0.mk hl154_5
                      clear hi154_5 hl154_5
                      have HR154_6 := Aside0.mk hi154_6
                      have HC154_6 := Aside0.mk hl154_6
                      clear hi154_6 hl154_6
                      replace p154 := eq_true p154
                      replace q154 := eq_true q154
                      go_wp2
                      go_roundg k2
                      case measure => have := HK1.out; have := HK2.out; omega
                      case rel => exact ⟨(wrap64 (x3_1 + 1)), (by first | rfl | (simp; done) | (simp [*]; done)), H', ⟨by have := HK1.out; have := HK2.out; omega⟩, by repeat (first | exact Drawn0.refl _ | apply Drawn0.step)⟩
                  · rw [if_neg c6] at H
                    exact absurd H (by simp)
                · rw [if_neg c5] at H
                  exact absurd H (by simp)
        · rw [if_neg c3] at H
          exact absurd H (by simp)
      · rw [if_neg c2] at H
        have c2b0 : decide (x3_1 < (l0.length : Int)) = false := decide_eq_false c2
        clear c2
        obtain rfl := Option.some.inj H
        go_wp2
        go_ret
        exact ⟨by first | rfl | (simp; done) | (simp [*]; done), by repeat (first | exact Drawn0.refl _ | apply Drawn0.step)⟩

end Go.Proofs.Ytoakeildgpeffaa.P
